/- The walks of the code that the statement reaches, and the plain laws behind them, part Ue. No conditions. -/
import Derived.WalkKit
import Derived.ProofKit
import Derived.OpenShut
import Derived.ShutString
import Derived.ChangeOld
import Derived.SizedLaws
import Derived.Deep.Slices
import Derived.Carry
import Derived.Test.YtldcoekbgfaomaaUd
set_option linter.unusedVariables false
set_option linter.unusedSimpArgs false
section
namespace Go.Proofs.Ytldcoekbgfaomaa
open Go.RowKit
set_option maxRecDepth 20000
set_option maxHeartbeats 4000000
attribute [local irreducible] AOps AOpsD AW
def sameNext (x : EndT) : List EndT → Bool
  | [] => false
  | y :: _ => decide (y.1 = x.1)
/-- The maximal extents, out of the ends in order: d extents are open, the present one began at st. -/
def sweepL : List EndT → Int → Int → Bool → List (Int × Int)
  | [], _, _, _ => []
  | x :: r, d, st, ins =>
    if sameNext x r = true then sweepL r (d + x.2.2) st ins
    else if d + x.2.2 > 0 then sweepL r (d + x.2.2) (if ins then st else x.1) true
    else (if ins then [(st, x.1 - st)] else []) ++ sweepL r (d + x.2.2) st false
/-- Ends of one list's extents. -/
def GoodL (L : List EndT) : Prop := L.length ≤ 32768 ∧ ∀ x ∈ L, 0 ≤ x.1 ∧ x.1 ≤ 4096 ∧ x.2.1 = 0 ∧ (x.2.2 = 1 ∨ x.2.2 = -1)
structure SwI (L : List EndT) (i : Nat) (d st : Int) (ins : Bool) (k : Nat) : Prop where
  le : i ≤ L.length
  d1 : -(i : Int) ≤ d
  d2 : d ≤ i
  s1 : 0 ≤ st
  s2 : st ≤ 4096
  kk : k ≤ (sweepL L 0 0 false).length
  r : (sweepL L 0 0 false).drop k = sweepL (L.drop i) d st ins
theorem drop_consE (L : List EndT) (i : Nat) (h : i < L.length) : L.drop i = L.getD i default :: L.drop (i + 1) := by
  rw [List.drop_eq_getElem_cons h]; simp [h]
theorem sameNext_drop (L : List EndT) (i : Nat) (x : EndT) : sameNext x (L.drop (i + 1)) = decide (i + 1 < L.length ∧ (L.getD (i + 1) default).1 = x.1) := by
  by_cases h : i + 1 < L.length
  · rw [drop_consE L (i + 1) h]
    simp [sameNext, h]
  · rw [List.drop_eq_nil_of_le (by omega)]
    simp [sameNext, h]
theorem swi_start (L : List EndT) : SwI L 0 0 0 false 0 := ⟨Nat.zero_le _, by omega, by omega, by omega, by omega, Nat.zero_le _, rfl⟩
section
variable {L : List EndT} {i k : Nat} {d st at' sp : Int} {ins : Bool}
theorem swi_unfold (h : SwI L i d st ins k) (hi : i < L.length) (hx : L.getD i default = (at', 0, sp)) : (sweepL L 0 0 false).drop k =
    (if (i + 1 < L.length ∧ (L.getD (i + 1) default).1 = at') then sweepL (L.drop (i + 1)) (d + sp) st ins
    else if d + sp > 0 then sweepL (L.drop (i + 1)) (d + sp) (if ins then st else at') true
    else (if ins then [(st, at' - st)] else []) ++ sweepL (L.drop (i + 1)) (d + sp) st false) := by
  rw [h.r, drop_consE L i hi, hx, sweepL, sameNext_drop]
  simp only [Zp]
theorem swi_good (hg : GoodL L) (hi : i < L.length) : ∃ at' sp, L.getD i default = (at', 0, sp) ∧ 0 ≤ at' ∧ at' ≤ 4096 ∧ (sp = 1 ∨ sp = -1) := by
  have hm : L.getD i default ∈ L := getD_mem L default i hi
  obtain ⟨h1, h2, h3, h4⟩ := hg.2 _ hm
  exact ⟨_, _, Prod.ext rfl (Prod.ext h3 rfl), h1, h2, h4⟩
theorem swi_cont (h : SwI L i d st ins k) (hi : i < L.length) (hx : L.getD i default = (at', 0, sp)) (hs : sp = 1 ∨ sp = -1) (hc : i + 1 < L.length ∧ (L.getD (i + 1) default).1 = at') : SwI L (i + 1) (d + sp) st ins k := by
  have hu := swi_unfold h hi hx
  rw [if_pos hc] at hu
  have h1 := h.d1
  have h2 := h.d2
  exact ⟨hi, by omega, by omega, h.s1, h.s2, h.kk, hu⟩
theorem swi_in (h : SwI L i d st ins k) (hi : i < L.length) (hx : L.getD i default = (at', 0, sp)) (hs : sp = 1 ∨ sp = -1) (ha : 0 ≤ at' ∧ at' ≤ 4096) (hc : ¬ (i + 1 < L.length ∧ (L.getD (i + 1) default).1 = at')) (hn : (decide (d + sp > 0) || decide ((0 : Int) > 0)) = true) :
    SwI L (i + 1) (d + sp) (if ins then st else at') true k := by
  have hu := swi_unfold h hi hx
  have hd : d + sp > 0 := by simpa using hn
  rw [if_neg hc, if_pos hd] at hu
  have h1 := h.d1
  have h2 := h.d2
  have h3 := h.s1
  have h4 := h.s2
  exact ⟨hi, by omega, by omega, by split <;> omega, by split <;> omega, h.kk, hu⟩
theorem swi_out (h : SwI L i d st false k) (hi : i < L.length) (hx : L.getD i default = (at', 0, sp)) (hs : sp = 1 ∨ sp = -1) (hc : ¬ (i + 1 < L.length ∧ (L.getD (i + 1) default).1 = at')) (hn : (decide (d + sp > 0) || decide ((0 : Int) > 0)) = false) :
    SwI L (i + 1) (d + sp) st false k := by
  have hu := swi_unfold h hi hx
  have hd : ¬ d + sp > 0 := by simpa using hn
  rw [if_neg hc, if_neg hd] at hu
  have h1 := h.d1
  have h2 := h.d2
  exact ⟨hi, by omega, by omega, h.s1, h.s2, h.kk, hu⟩
theorem swi_yield (h : SwI L i d st true k) (hi : i < L.length) (hx : L.getD i default = (at', 0, sp)) (hs : sp = 1 ∨ sp = -1) (hc : ¬ (i + 1 < L.length ∧ (L.getD (i + 1) default).1 = at')) (hn : (decide (d + sp > 0) || decide ((0 : Int) > 0)) = false) :
    (sweepL L 0 0 false)[k]? = some (st, at' - st) ∧ SwI L (i + 1) (d + sp) st false (k + 1) := by
  have hu := swi_unfold h hi hx
  have hd : ¬ d + sp > 0 := by simpa using hn
  rw [if_neg hc, if_neg hd] at hu
  have h1 := h.d1
  have h2 := h.d2
  have hk : (sweepL L 0 0 false)[k]? = some (st, at' - st) := by
    have := congrArg (fun l => l[0]?) hu
    simpa using this
  refine ⟨hk, hi, by omega, by omega, h.s1, h.s2, (List.getElem?_eq_some_iff.1 hk).1, ?_⟩
  have := congrArg (List.drop 1) hu
  rw [List.drop_drop] at this
  simpa using this
theorem swi_end (h : SwI L L.length d st ins k) : k = (extItems (sweepL L 0 0 false)).length := by
  have h1 := h.r
  rw [List.drop_length] at h1
  have h2 : (sweepL L 0 0 false).length ≤ k := by
    have := congrArg List.length h1
    simp [sweepL] at this
    omega
  rw [extItems_length]
  have := h.kk
  omega
theorem item_of {l : List (Int × Int)} {k : Nat} {a b : Int} (h : l[k]? = some (a, b)) : (extItems l)[k]? = some (.agg [i64 a, i64 b]) := by simp [extItems, h]
end
theorem endCells_at3 (l : List EndT) (i : Nat) (h : i + 1 < l.length) : (endCells l)[i * 3 + 3]? = some (i64 (l.getD (i + 1) default).1) := by
  have := endCells_at0 l (i + 1) h
  rwa [Nat.succ_mul] at this
theorem c110n (p q now : Bool) (h : (p || q) = now) : ACalls Try.prog 110 [.p (bv p), .p (bv q)] (.p (bv now)) := h ▸ c110 p q
theorem rawAll_good {l : List (Int × Int)} (h : ∀ e ∈ l, GoodE e) (hl : l.length ≤ 8192) : GoodL (sortE (rawAll [l, []])) := by
  have hp := sortE_perm (rawAll [l, []])
  have e : rawAll [l, []] = endsOf 0 l := by simp [rawAll, endsOf]
  rw [e] at hp ⊢
  refine ⟨by rw [hp.length_eq, endsOf_length]; omega, fun x hx => ?_⟩
  have hm := hp.mem_iff.1 hx
  simp only [endsOf,List.mem_flatMap] at hm
  obtain ⟨y, hy, hxy⟩ := hm
  obtain ⟨s, c, rfl, h1, h2⟩ := h y hy
  simp only [List.mem_cons,List.not_mem_nil,or_false] at hxy
  rcases hxy with rfl | rfl
  · exact ⟨by simp, by simp; omega, rfl, .inl rfl⟩
  · exact ⟨by simp; omega, by simp; omega, rfl, .inr rfl⟩
theorem s119g (l : List (Int × Int)) (hl : l.length ≤ 8192) (hg : ∀ e ∈ l, GoodE e) (L : List EndT) (hL : sortE (rawAll [l, []]) = L) : SeqC Try.prog 119 [exts l, .sl 0 [], .v (.func (.func 110) #[] #[])] (extItems (sweepL L 0 0 false)) := by
  have hgl : GoodL L := hL ▸ rawAll_good hg hl
  have hLl := hgl.1
  have h120 : ACalls Try.prog 120 [.p (.sl 2 [exts l, .sl 0 []])] (.p (endsP L)) := hL ▸ c120 [l, []] (by simp) (by simpa using hl) (by simpa using hg)
  refine seq_of Try.func119 (c := _) rfl (by kernel_rfl) rfl ?_
  intro X ll hP hX _
  have hb : tb.Ok X.P := hP ▸ tb_ok
  change AW X _ _ ⟨[.yld ll (extItems (sweepL L 0 0 false)) 0], [.p (.v (.func (.yield ll) #[] #[])), .ept [exts l] 0, .ept [.sl 0 []] 0, .ept [.v (.func (.func 110) #[] #[])] 0, .any, .any, .any, .any, .any, .any, .any, .any, .any, .any, .any, .any, .any, .any, .any, .any, .any, .any, .any, .any, .any, .any, .any, .any, .any, .any, .any, .any, .any, .any, .any, .any, .any, .any, .any, .any, .any, .any, .any, .any, .any, .any, .any, .any, .any, .any, .any, .any, .any, .any, .any, .any, .any, .any, .any, .any, .any, .any, .any, .any, .any, .any, .any, .any, .any, .any, .any, .any, .any, .any, .any, .any, .any, .any, .any, .any], [], []⟩
  refine aw_seq ?_
  refine aw_regK hX hb [0, 1, 2, 3, 4] rfl (σ' := ?s1) (fun K hK => ?h1) ?n1
  case h1 =>
    iterate 3 (refine st_op rfl (by simp (disch := omega) only [stepf,callOf,qop,fop,St.ev,St.put,cd,zd,Value.oneCell',tb_T,TypeDesc.aggB,getD_0,getD_s,Ze,Zd,Zc,Za,Zb,Zr,ZE,ZF,Zf,Zq,Zg,i64_w,Zt,Zs,Zl,Zo,Zv,Zw,Zj,Zk,Zx,Zy,qLoad,bload,pload,pureAll,D.pure?,ZC,ZD,tb_N,tbO_N,tbW_N,tb_O,fBuildSlice,catCells,D.cells?,range_1,range_2,range_3,range_4,range_5,ZG,ZH,ZL,ZM,ZN,sec8_length,Nat.reduceAdd,Nat.reduceMul,pvAll,D.pv?,t1,ti1,t2,ti2,t3,ti3,t35,ti35,t40,ti40,t186,ti186,endCells_part,endCells_length,endCells_at0,Zh] <;> exact rfl) ?_)
    refine st_call rfl (by simp only [callOf,St.ev,getD_0,getD_s,pvAll,D.pv?,ZG,ZH,zd,cd,Value.oneCell',Zr] <;> exact rfl) (acK hP (h120)) (by simp only [St.put,Za,Zb] <;> exact rfl) ?_
    (refine st_op rfl (by simp (disch := omega) only [stepf,callOf,qop,fop,St.ev,St.put,cd,zd,Value.oneCell',tb_T,TypeDesc.aggB,getD_0,getD_s,Ze,Zd,Zc,Za,Zb,Zr,ZE,ZF,Zf,Zq,Zg,i64_w,Zt,Zs,Zl,Zo,Zv,Zw,Zj,Zk,Zx,Zy,qLoad,bload,pload,pureAll,D.pure?,ZC,ZD,tb_N,tbO_N,tbW_N,tb_O,fBuildSlice,catCells,D.cells?,range_1,range_2,range_3,range_4,range_5,ZG,ZH,ZL,ZM,ZN,sec8_length,Nat.reduceAdd,Nat.reduceMul,pvAll,D.pv?,t1,ti1,t2,ti2,t3,ti3,t35,ti35,t40,ti40,t186,ti186,endCells_part,endCells_length,endCells_at0,Zh] <;> exact rfl) ?_)
    refine aops_nil ?_
    exact hK
  refine exq_n ?_
  refine aw_seq ?_
  refine aw_regK hX hb [0] rfl (σ' := ?s2) (fun K hK => ?h2) ?n2
  case h2 =>
    (refine st_op rfl (by simp (disch := omega) only [stepf,callOf,qop,fop,St.ev,St.put,cd,zd,Value.oneCell',tb_T,TypeDesc.aggB,getD_0,getD_s,Ze,Zd,Zc,Za,Zb,Zr,ZE,ZF,Zf,Zq,Zg,i64_w,Zt,Zs,ZM,ZL,Zl,Zo,ZG,ZH,St.addBox,Value.cells,t3,ti3,t183,ti183,endCells_part,endCells_length,endCells_at0,Zh] <;> exact rfl) ?_)
    refine aops_nil ?_
    exact hK
  refine exq_n ?_
  refine aw_seq ?_
  refine aw_regK hX hb [0, 1] rfl (σ' := ?s3) (fun K hK => ?h3) ?n3
  case h3 =>
    iterate 2 (refine st_op rfl (by simp (disch := omega) only [stepf,callOf,qop,fop,St.ev,St.put,cd,zd,Value.oneCell',tb_T,TypeDesc.aggB,getD_0,getD_s,Ze,Zd,Zc,Za,Zb,Zr,ZE,ZF,Zf,Zq,Zg,i64_w,Zt,Zs,endCells_part,endCells_length,endCells_at0,Zh] <;> exact rfl) ?_)
    refine aops_nil ?_
    exact hK
  refine exq_n ?_
  refine aw_seq ?_
  refine aw_regK hX hb [0, 1, 2] rfl (σ' := ?s4) (fun K hK => ?h4) ?n4
  case h4 =>
    iterate 3 (refine st_op rfl (by simp (disch := omega) only [stepf,callOf,qop,fop,St.ev,St.put,cd,zd,Value.oneCell',tb_T,TypeDesc.aggB,getD_0,getD_s,Ze,Zd,Zc,Za,Zb,Zr,ZE,ZF,Zf,Zq,Zg,i64_w,Zt,Zs,qLen,t3,ti3,t5,ti5,t181,ti181,t185,ti185,endCells_part,endCells_length,endCells_at0,Zh] <;> exact rfl) ?_)
    refine aops_nil ?_
    exact hK
  refine exq_n ?_
  refine aw_block ?_
  refine aw_loop (ι := Nat × Int × Int × Bool × Nat) (fun p => SwI L p.1 p.2.1 p.2.2.1 p.2.2.2.1 p.2.2.2.2) (fun p => ⟨[.yld ll (extItems (sweepL L 0 0 false)) p.2.2.2.2], [.p (.v (.func (.yield ll) #[] #[])), .any, .any, .ept [.v (.func (.func 110) #[] #[])] 0, .any, .p (endsP L), .ptr 0 0, .p (i64 p.2.2.1), .p (bv p.2.2.2.1), .any, .any, .any, .any, .any, .any, .any, .p (endsP L), .p (i64 L.length), .p (i64 p.1), .any, .any, .any, .any, .any, .any, .any, .any, .any, .any, .any, .any, .any, .any, .any, .any, .any, .any, .any, .any, .any, .any, .any, .any, .any, .any, .any, .any, .any, .any, .any, .any, .any, .any, .any, .any, .any, .any, .any, .any, .any, .any, .any, .any, .any, .any, .any, .any, .any, .any, .any, .any, .any, .any, .any, .any, .any, .any, .any, .any, .any], [⟨183, [.p (i64 p.2.1), .p (i64 0)]⟩], []⟩) (fun p => L.length - p.1) (0, 0, 0, false, 0) (by exact swi_start L) (wk_le ⟨rfl, leL_r rfl (leL_a (leL_a (leL_r rfl (leL_a (leL_r rfl (leL_r rfl (leL_r rfl (leL_r rfl (leL_a (leL_a (leL_a (leL_a (leL_a (leL_a (leL_a (leL_r rfl (leL_r rfl (leL_r rfl (leL_a (leL_a (leL_a (leL_a (leL_a (leL_a (leL_a (leL_a (leL_a (leL_a (leL_a (leL_a (leL_a (leL_a (leL_a (leL_a (leL_a (leL_a (leL_a (leL_a (leL_a (leL_a (leL_a (leL_a (leL_a (leL_a (leL_a (leL_a (leL_a (leL_a (leL_a (leL_a (leL_a (leL_a (leL_a (leL_a (leL_a (leL_a (leL_a (leL_a (leL_a (leL_a (leL_a (leL_a (leL_a (leL_a (leL_a (leL_a (leL_a (leL_a (leL_a (leL_a (leL_a (leL_a (leL_a (leL_a (leL_a (leL_a (leL_a (leL_a (leL_a (leL_nil)))))))))))))))))))))))))))))))))))))))))))))))))))))))))))))))))))))))))))))))), (leB_r rfl (leL_r rfl (leL_r rfl (leL_nil))) (leB_nil _)), (leV_nil _), rfl, rfl⟩) ?_
  rintro ⟨i, d, st, ins, k⟩ hI
  dsimp only at hI ⊢
  have hI1 := hI.d1
  have hI2 := hI.d2
  have hI3 := hI.s1
  have hI4 := hI.s2
  have hI5 := hI.le
  have i3 : (i + 1) * 3 = i * 3 + 3 := Nat.succ_mul i 3
  have i31 : ((i : Int) + 1).toNat = i + 1 := by omega
  refine aw_seq ?_
  refine aw_regK hX hb [0] rfl (σ' := ?s5) (fun K hK => ?h5) ?n5
  case h5 =>
    (refine st_op rfl (by simp (disch := omega) only [stepf,callOf,qop,fop,St.ev,St.put,cd,zd,Value.oneCell',tb_T,TypeDesc.aggB,getD_0,getD_s,Ze,Zd,Zc,Za,Zb,Zr,ZE,ZF,Zf,Zq,Zg,i64_w,Zt,Zs,qBin,iop,t3,ti3,endCells_part,endCells_length,endCells_at0,Zh] <;> exact rfl) ?_)
    refine aops_nil ?_
    exact hK
  refine exq_n ?_
  refine aw_seq ?_
  refine aw_cond _ rfl (fun hc0 => ?_) (fun hc0 => ?_)
  · try simp only [Zp,Zi,ZK,ZJ,ne_eq,Zn,Zm,ZB,ZA,ZI,not_or,not_and,Zu] at hc0
    have hil : i < L.length := by omega
    obtain ⟨at2, sp, hx, ha1, ha2, hsp⟩ := swi_good hgl hil
    refine aw_skip ?_
    refine exq_n ?_
    refine aw_seq ?_
    refine aw_block ?_
    refine aw_seq ?_
    refine aw_regK hX hb [0, 1, 2, 3, 4, 5] rfl (σ' := ?s6) (fun K hK => ?h6) ?n6
    case h6 =>
      iterate 6 (refine st_op rfl (by simp (disch := omega) only [stepf,callOf,qop,fop,St.ev,St.put,cd,zd,Value.oneCell',tb_T,TypeDesc.aggB,getD_0,getD_s,Ze,Zd,Zc,Za,Zb,Zr,ZE,ZF,Zf,Zq,Zg,i64_w,Zt,Zs,Int.toNat_zero,Int.toNat_one,toNat_pred,toNat_succ,qIndexAddr,ZO,Nat.mul_one,ZC,Nat.zero_mul,Zh,Zl,Zo,Zv,Zw,Zj,Zk,Zx,Zy,qLoad,bload,pload,pureAll,D.pure?,ZD,ZM,ZL,ZG,ZH,St.addBox,Value.cells,fStore,D.boxCells,D.live,D.cells?,ZN,St.setVec,t3,ti3,t5,ti5,t22,ti22,t50,ti50,t181,ti181,t185,ti185,endCells_part,endCells_length,endCells_at0] <;> exact rfl) ?_)
      refine aops_nil ?_
      exact hK
    refine exq_n ?_
    refine aw_seq ?_
    refine aw_regD hX hb (try_mixed hP) [(0, true), (1, true), (2, true), (3, true), (4, true), (5, true), (6, true), (7, true), (8, false)] (by kernel_rfl) (σ' := ?s7) (fun K hK => ?h7) ?n7
    case h7 =>
      iterate 8 (refine sd_q rfl (by simp (disch := omega) only [qop,fop,St.ev,St.put,cd,zd,Value.oneCell',tb_T,TypeDesc.aggB,getD_0,getD_s,Ze,Zd,Zc,Za,Zb,Zr,ZE,ZF,Zf,Zq,Zg,i64_w,Zt,Zs,qFieldAddr,fieldOf,Zl,Zo,Zv,Zw,Zj,Zk,Zx,Zy,qLoad,bload,pload,pureAll,D.pure?,ZC,ZD,Int.toNat_zero,Int.toNat_one,toNat_pred,toNat_succ,qIndexAddr,ZO,Nat.mul_one,Nat.zero_mul,Zh,qBin,iop,fStore,D.boxCells,D.live,D.cells?,ZM,ZL,ZN,ZG,ZH,St.setVec,t1,ti1,t2,ti2,t3,ti3,t24,ti24,t26,ti26,t27,ti27,t58,ti58,t60,ti60,t183,ti183,t185,ti185,endCells_part,endCells_length,endCells_at0,hx] <;> exact rfl) (by simp only [St.put,Za,Zb] <;> exact rfl) ?_)
      (refine sd_op rfl (by simp (disch := omega) only [stepf,callOf,qop,fop,St.ev,St.put,cd,zd,Value.oneCell',tb_T,TypeDesc.aggB,getD_0,getD_s,Ze,Zd,Zc,Za,Zb,Zr,ZE,ZF,Zf,Zq,Zg,i64_w,Zt,Zs,qFieldAddr,fieldOf,Zl,Zo,Zv,Zw,Zj,Zk,Zx,Zy,qLoad,bload,pload,pureAll,D.pure?,ZC,ZD,Int.toNat_zero,Int.toNat_one,toNat_pred,toNat_succ,qIndexAddr,ZO,Nat.mul_one,Nat.zero_mul,Zh,qBin,iop,fStore,D.boxCells,D.live,D.cells?,ZM,ZL,ZN,ZG,ZH,St.setVec,t1,ti1,t2,ti2,t3,ti3,t24,ti24,t26,ti26,t27,ti27,t58,ti58,t60,ti60,t183,ti183,t185,ti185,endCells_part,endCells_length,endCells_at0,hx] <;> exact rfl) ?_)
      refine aopsd_nil ?_
      exact hK
    refine exq_n ?_
    refine aw_seq ?_
    refine aw_seq ?_
    refine aw_regDJ hX hb (try_mixed hP) [(0, true), (1, true), (2, true), (3, true), (4, true), (5, true), (6, true), (7, true), (8, true), (9, true), (10, true), (11, true), (12, true), (13, true), (14, true), (15, true)] (by kernel_rfl) (ts := [31, 32, 33, 34, 35, 36, 37, 38, 39, 40, 41, 42, 43, 44, 45]) (t := 46) (d := .p (bv (i + 1 < L.length ∧ (L.getD (i + 1) default).1 = at2))) (σ' := ?s8) ?j8 ?h8 ?n8
    case j8 => simp only [St.join,List.foldl,Za,Zb]; exact rfl
    case h8 =>
      iterate 6 (all_goals refine sd_q rfl (by simp (disch := omega) only [qop,fop,St.ev,St.put,cd,zd,Value.oneCell',tb_T,TypeDesc.aggB,getD_0,getD_s,Ze,Zd,Zc,Za,Zb,Zr,ZE,ZF,Zf,Zq,Zg,i64_w,Zt,Zs,qBin,iop,qLen,Int.toNat_zero,Int.toNat_one,toNat_pred,toNat_succ,qIndexAddr,ZO,Nat.mul_one,ZC,Nat.zero_mul,Zh,qFieldAddr,fieldOf,Zl,Zo,Zv,Zw,Zj,Zk,Zx,Zy,qLoad,bload,pload,pureAll,D.pure?,ZD,t1,ti1,t3,ti3,t5,ti5,t35,ti35,t40,ti40,t181,ti181,t185,ti185,endCells_part,endCells_length,endCells_at0,hx,i31,endCells_at3,i3] <;> exact rfl) (by simp only [St.put,Za,Zb] <;> exact rfl) ?_)
      iterate 9 (all_goals first | (refine sd_g1 rfl rfl rfl (by simp (disch := omega) only [qop,fop,St.ev,St.put,cd,zd,Value.oneCell',tb_T,TypeDesc.aggB,getD_0,getD_s,Ze,Zd,Zc,Za,Zb,Zr,ZE,ZF,Zf,Zq,Zg,i64_w,Zt,Zs,qBin,iop,qLen,Int.toNat_zero,Int.toNat_one,toNat_pred,toNat_succ,qIndexAddr,ZO,Nat.mul_one,ZC,Nat.zero_mul,Zh,qFieldAddr,fieldOf,Zl,Zo,Zv,Zw,Zj,Zk,Zx,Zy,qLoad,bload,pload,pureAll,D.pure?,ZD,t1,ti1,t3,ti3,t5,ti5,t35,ti35,t40,ti40,t181,ti181,t185,ti185,endCells_part,endCells_length,endCells_at0,hx,i31,endCells_at3,i3] <;> exact rfl) rfl (by simp only [St.put,Za,Zb] <;> exact rfl) ?_) | (first | (refine sd_g0 rfl rfl rfl (by simp only [St.put,Za,Zb] <;> exact rfl) ?_) | (refine sd_gu rfl rfl rfl (by simp only [St.put,Za,Zb] <;> exact rfl) ?_)) | (refine sd_split rfl rfl rfl (by simp only [Za,Zb] <;> exact rfl) (by simp only [Za,Zb] <;> exact rfl) (fun hg => ?_) (fun hg => ?_) <;> (try simp only [Zp,Zi,ZJ,ZK,ne_eq,Zn,Zm,Bool.not_eq_true,Zu] at hg) <;> first | (refine sd_g1 rfl rfl rfl (by simp (disch := omega) only [qop,fop,St.ev,St.put,cd,zd,Value.oneCell',tb_T,TypeDesc.aggB,getD_0,getD_s,Ze,Zd,Zc,Za,Zb,Zr,ZE,ZF,Zf,Zq,Zg,i64_w,Zt,Zs,qBin,iop,qLen,Int.toNat_zero,Int.toNat_one,toNat_pred,toNat_succ,qIndexAddr,ZO,Nat.mul_one,ZC,Nat.zero_mul,Zh,qFieldAddr,fieldOf,Zl,Zo,Zv,Zw,Zj,Zk,Zx,Zy,qLoad,bload,pload,pureAll,D.pure?,ZD,t1,ti1,t3,ti3,t5,ti5,t35,ti35,t40,ti40,t181,ti181,t185,ti185,endCells_part,endCells_length,endCells_at0,hx,i31,endCells_at3,i3] <;> exact rfl) rfl (by simp only [St.put,Za,Zb] <;> exact rfl) ?_) | (first | (refine sd_g0 rfl rfl rfl (by simp only [St.put,Za,Zb] <;> exact rfl) ?_) | (refine sd_gu rfl rfl rfl (by simp only [St.put,Za,Zb] <;> exact rfl) ?_))))
      (all_goals refine sd_q rfl (by simp (disch := omega) only [qop,fop,St.ev,St.put,cd,zd,Value.oneCell',tb_T,TypeDesc.aggB,getD_0,getD_s,Ze,Zd,Zc,Za,Zb,Zr,ZE,ZF,Zf,Zq,Zg,i64_w,Zt,Zs,qBin,iop,qLen,Int.toNat_zero,Int.toNat_one,toNat_pred,toNat_succ,qIndexAddr,ZO,Nat.mul_one,ZC,Nat.zero_mul,Zh,qFieldAddr,fieldOf,Zl,Zo,Zv,Zw,Zj,Zk,Zx,Zy,qLoad,bload,pload,pureAll,D.pure?,ZD,t1,ti1,t3,ti3,t5,ti5,t35,ti35,t40,ti40,t181,ti181,t185,ti185,endCells_part,endCells_length,endCells_at0,hx,i31,endCells_at3,i3] <;> exact rfl) (by simp only [St.put,Za,Zb] <;> exact rfl) ?_)
      all_goals refine aopsd_nil ?_
      all_goals refine ⟨rfl, ?_, leB_self _, leV_self _, rfl, rfl⟩
      all_goals repeat' (first | exact leL_nil | refine leL_a ?_ | refine leL_r rfl ?_ | refine leL_r ?_ ?_)
      all_goals refine jn ?_
      all_goals ((try simp only [Zp,Zi,ZJ,ZK,Bool.not_eq_true,Zm,Zn,ne_eq,Zf,true_iff,false_iff,iff_true,iff_false] at *) <;> omega)
    refine exq_n ?_
    refine aw_cond _ rfl (fun hc1 => ?_) (fun hc1 => ?_)
    · try simp only [Zp,Zi,ZK,ZJ,ne_eq,Zn,Zm,ZB,ZA,ZI,not_or,not_and,Zu] at hc1
      refine aw_exit ?_
      refine exq_e ?_
      refine exb_h ?_
      refine exq_n ?_
      refine aw_regK hX hb [0, 1] rfl (σ' := ?s9) (fun K hK => ?h9) ?n9
      case h9 =>
        iterate 2 (refine st_op rfl (by simp (disch := omega) only [stepf,callOf,qop,fop,St.ev,St.put,cd,zd,Value.oneCell',tb_T,TypeDesc.aggB,getD_0,getD_s,Ze,Zd,Zc,Za,Zb,Zr,ZE,ZF,Zf,Zq,Zg,i64_w,Zt,Zs,qBin,iop,t1,ti1,t3,ti3,endCells_part,endCells_length,endCells_at0,Zh] <;> exact rfl) ?_)
        refine aops_nil ?_
        exact hK
      refine exq_n ?_
      exact ⟨(i + 1, d + sp, st, ins, k), by exact swi_cont hI hil hx hsp hc1, by (try dsimp only); omega, wk_le ⟨rfl, leL_r rfl (leL_a (leL_a (leL_r rfl (leL_a (leL_r rfl (leL_r rfl (leL_r rfl (leL_r rfl (leL_a (leL_a (leL_a (leL_a (leL_a (leL_a (leL_a (leL_r rfl (leL_r rfl (leL_r rfl (leL_a (leL_a (leL_a (leL_a (leL_a (leL_a (leL_a (leL_a (leL_a (leL_a (leL_a (leL_a (leL_a (leL_a (leL_a (leL_a (leL_a (leL_a (leL_a (leL_a (leL_a (leL_a (leL_a (leL_a (leL_a (leL_a (leL_a (leL_a (leL_a (leL_a (leL_a (leL_a (leL_a (leL_a (leL_a (leL_a (leL_a (leL_a (leL_a (leL_a (leL_a (leL_a (leL_a (leL_a (leL_a (leL_a (leL_a (leL_a (leL_a (leL_a (leL_a (leL_a (leL_a (leL_a (leL_a (leL_a (leL_a (leL_a (leL_a (leL_a (leL_a (leL_nil)))))))))))))))))))))))))))))))))))))))))))))))))))))))))))))))))))))))))))))))), (leB_r rfl (leL_r rfl (leL_r rfl (leL_nil))) (leB_nil _)), (leV_nil _), rfl, rfl⟩⟩
    · try simp only [Zp,Zi,ZK,ZJ,ne_eq,Zn,Zm,ZB,ZA,ZI,not_or,not_and,Zu] at hc1
      rw [← not_and] at hc1
      refine aw_skip ?_
      refine exq_n ?_
      refine aw_seq ?_
      obtain ⟨now, hnow⟩ : ∃ now, (decide (d + sp > 0) || decide ((0 : Int) > 0)) = now := ⟨_, rfl⟩
      refine aw_regK hX hb [0, 1, 2, 3, 4, 5, 6, 7, 8] rfl (σ' := ?s10) (fun K hK => ?h10) ?n10
      case h10 =>
        iterate 7 (refine st_op rfl (by simp (disch := omega) only [stepf,callOf,qop,fop,St.ev,St.put,cd,zd,Value.oneCell',tb_T,TypeDesc.aggB,getD_0,getD_s,Ze,Zd,Zc,Za,Zb,Zr,ZE,ZF,Zf,Zq,Zg,i64_w,Zt,Zs,Zl,Zo,Zv,Zw,Zj,Zk,Zx,Zy,qLoad,bload,pload,pureAll,D.pure?,ZC,ZD,Int.toNat_zero,Int.toNat_one,toNat_pred,toNat_succ,qIndexAddr,ZO,Nat.mul_one,Nat.zero_mul,Zh,qBin,iop,pvAll,D.pv?,t1,ti1,t3,ti3,t4,ti4,t5,ti5,t22,ti22,t47,ti47,t50,ti50,t54,ti54,t170,ti170,t183,ti183,endCells_part,endCells_length,endCells_at0,hx] <;> exact rfl) ?_)
        refine st_call rfl (by simp only [callOf,St.ev,getD_0,getD_s,pvAll,D.pv?,ZG,ZH,zd,cd,Value.oneCell',Zr] <;> exact rfl) (acK hP (c110n _ _ now hnow)) (by simp only [St.put,Za,Zb] <;> exact rfl) ?_
        (refine st_op rfl (by simp (disch := omega) only [stepf,callOf,qop,fop,St.ev,St.put,cd,zd,Value.oneCell',tb_T,TypeDesc.aggB,getD_0,getD_s,Ze,Zd,Zc,Za,Zb,Zr,ZE,ZF,Zf,Zq,Zg,i64_w,Zt,Zs,Zl,Zo,Zv,Zw,Zj,Zk,Zx,Zy,qLoad,bload,pload,pureAll,D.pure?,ZC,ZD,Int.toNat_zero,Int.toNat_one,toNat_pred,toNat_succ,qIndexAddr,ZO,Nat.mul_one,Nat.zero_mul,Zh,qBin,iop,pvAll,D.pv?,t1,ti1,t3,ti3,t4,ti4,t5,ti5,t22,ti22,t47,ti47,t50,ti50,t54,ti54,t170,ti170,t183,ti183,endCells_part,endCells_length,endCells_at0,hx] <;> exact rfl) ?_)
        refine aops_nil ?_
        exact hK
      refine exq_n ?_
      refine aw_seq ?_
      refine aw_seq ?_
      cases now <;> cases ins
      · refine aw_regK hX hb [0, 1, 2, 3, 4] rfl (σ' := ?s11) (fun K hK => ?h11) ?n11
        case h11 =>
          iterate 2 (refine st_op rfl (by simp (disch := omega) only [stepf,callOf,qop,fop,St.ev,St.put,cd,zd,Value.oneCell',tb_T,TypeDesc.aggB,getD_0,getD_s,Ze,Zd,Zc,Za,Zb,Zr,ZE,ZF,Zf,Zq,Zg,i64_w,Zt,Zs,Bool.not_true,Bool.not_false,t4,ti4,t58,ti58,endCells_part,endCells_length,endCells_at0,Zh] <;> exact rfl) ?_)
          iterate 2 (all_goals first | (refine st_g1 rfl rfl rfl (by simp (disch := omega) only [stepf,callOf,qop,fop,St.ev,St.put,cd,zd,Value.oneCell',tb_T,TypeDesc.aggB,getD_0,getD_s,Ze,Zd,Zc,Za,Zb,Zr,ZE,ZF,Zf,Zq,Zg,i64_w,Zt,Zs,Bool.not_true,Bool.not_false,t4,ti4,t58,ti58,endCells_part,endCells_length,endCells_at0,Zh] <;> exact rfl) ?_) | (first | (refine st_g0 rfl rfl rfl (by simp only [St.put,Za,Zb] <;> exact rfl) ?_) | (refine st_gu rfl rfl rfl (by simp only [St.put,Za,Zb] <;> exact rfl) ?_)) | (refine st_split rfl rfl rfl (by simp only [Za,Zb] <;> exact rfl) (by simp only [Za,Zb] <;> exact rfl) (fun hg => ?_) (fun hg => ?_) <;> (try simp only [Zp,Zi,ZJ,ZK,ne_eq,Zn,Zm,Bool.not_eq_true,Zu] at hg) <;> first | (refine st_g1 rfl rfl rfl (by simp (disch := omega) only [stepf,callOf,qop,fop,St.ev,St.put,cd,zd,Value.oneCell',tb_T,TypeDesc.aggB,getD_0,getD_s,Ze,Zd,Zc,Za,Zb,Zr,ZE,ZF,Zf,Zq,Zg,i64_w,Zt,Zs,Bool.not_true,Bool.not_false,t4,ti4,t58,ti58,endCells_part,endCells_length,endCells_at0,Zh] <;> exact rfl) ?_) | (first | (refine st_g0 rfl rfl rfl (by simp only [St.put,Za,Zb] <;> exact rfl) ?_) | (refine st_gu rfl rfl rfl (by simp only [St.put,Za,Zb] <;> exact rfl) ?_))))
          (refine st_op rfl (by simp (disch := omega) only [stepf,callOf,qop,fop,St.ev,St.put,cd,zd,Value.oneCell',tb_T,TypeDesc.aggB,getD_0,getD_s,Ze,Zd,Zc,Za,Zb,Zr,ZE,ZF,Zf,Zq,Zg,i64_w,Zt,Zs,Bool.not_true,Bool.not_false,t4,ti4,t58,ti58,endCells_part,endCells_length,endCells_at0,Zh] <;> exact rfl) ?_)
          refine aops_nil ?_
          exact hK
        refine exq_n ?_
        refine aw_cond false rfl (fun h => by cases h) (fun _ => ?_)
        refine aw_skip ?_
        refine exq_n ?_
        refine aw_seq ?_
        refine aw_seq ?_
        refine aw_regK hX hb [0, 1, 2, 3, 4, 5, 6, 7, 8, 9, 10, 11, 12, 13, 14, 15] rfl (σ' := ?s12) (fun K hK => ?h12) ?n12
        case h12 =>
          iterate 3 (refine st_op rfl (by simp (disch := omega) only [stepf,callOf,qop,fop,St.ev,St.put,cd,zd,Value.oneCell',tb_T,TypeDesc.aggB,getD_0,getD_s,Ze,Zd,Zc,Za,Zb,Zr,ZE,ZF,Zf,Zq,Zg,i64_w,Zt,Zs,Bool.not_true,Bool.not_false,qFieldAddr,fieldOf,Zl,Zo,Zv,Zw,Zj,Zk,Zx,Zy,qLoad,bload,pload,pureAll,D.pure?,ZC,ZD,qBin,iop,tb_W,tbO_W,qBuild,qBuildD,D.cell1,range_1,range_2,range_3,range_4,range_5,List.all_cons,List.all_nil,bfill,TI.place,TI.zeros,TI.kindOk,D.cells?,zp,Value.cells,ZQ,ZP,pvAll,D.pv?,t1,ti1,t3,ti3,t4,ti4,t5,ti5,t22,ti22,t24,ti24,t26,ti26,t35,ti35,t40,ti40,t50,ti50,t58,ti58,t60,ti60,t63,ti63,t69,ti69,t71,ti71,t75,ti75,t185,ti185,endCells_part,endCells_length,endCells_at0,Zh,hx] <;> exact rfl) ?_)
          (all_goals first | (refine st_g1 rfl rfl rfl (by simp (disch := omega) only [stepf,callOf,qop,fop,St.ev,St.put,cd,zd,Value.oneCell',tb_T,TypeDesc.aggB,getD_0,getD_s,Ze,Zd,Zc,Za,Zb,Zr,ZE,ZF,Zf,Zq,Zg,i64_w,Zt,Zs,Bool.not_true,Bool.not_false,qFieldAddr,fieldOf,Zl,Zo,Zv,Zw,Zj,Zk,Zx,Zy,qLoad,bload,pload,pureAll,D.pure?,ZC,ZD,qBin,iop,tb_W,tbO_W,qBuild,qBuildD,D.cell1,range_1,range_2,range_3,range_4,range_5,List.all_cons,List.all_nil,bfill,TI.place,TI.zeros,TI.kindOk,D.cells?,zp,Value.cells,ZQ,ZP,pvAll,D.pv?,t1,ti1,t3,ti3,t4,ti4,t5,ti5,t22,ti22,t24,ti24,t26,ti26,t35,ti35,t40,ti40,t50,ti50,t58,ti58,t60,ti60,t63,ti63,t69,ti69,t71,ti71,t75,ti75,t185,ti185,endCells_part,endCells_length,endCells_at0,Zh,hx] <;> exact rfl) ?_) | (first | (refine st_g0 rfl rfl rfl (by simp only [St.put,Za,Zb] <;> exact rfl) ?_) | (refine st_gu rfl rfl rfl (by simp only [St.put,Za,Zb] <;> exact rfl) ?_)) | (refine st_split rfl rfl rfl (by simp only [Za,Zb] <;> exact rfl) (by simp only [Za,Zb] <;> exact rfl) (fun hg => ?_) (fun hg => ?_) <;> (try simp only [Zp,Zi,ZJ,ZK,ne_eq,Zn,Zm,Bool.not_eq_true,Zu] at hg) <;> first | (refine st_g1 rfl rfl rfl (by simp (disch := omega) only [stepf,callOf,qop,fop,St.ev,St.put,cd,zd,Value.oneCell',tb_T,TypeDesc.aggB,getD_0,getD_s,Ze,Zd,Zc,Za,Zb,Zr,ZE,ZF,Zf,Zq,Zg,i64_w,Zt,Zs,Bool.not_true,Bool.not_false,qFieldAddr,fieldOf,Zl,Zo,Zv,Zw,Zj,Zk,Zx,Zy,qLoad,bload,pload,pureAll,D.pure?,ZC,ZD,qBin,iop,tb_W,tbO_W,qBuild,qBuildD,D.cell1,range_1,range_2,range_3,range_4,range_5,List.all_cons,List.all_nil,bfill,TI.place,TI.zeros,TI.kindOk,D.cells?,zp,Value.cells,ZQ,ZP,pvAll,D.pv?,t1,ti1,t3,ti3,t4,ti4,t5,ti5,t22,ti22,t24,ti24,t26,ti26,t35,ti35,t40,ti40,t50,ti50,t58,ti58,t60,ti60,t63,ti63,t69,ti69,t71,ti71,t75,ti75,t185,ti185,endCells_part,endCells_length,endCells_at0,Zh,hx] <;> exact rfl) ?_) | (first | (refine st_g0 rfl rfl rfl (by simp only [St.put,Za,Zb] <;> exact rfl) ?_) | (refine st_gu rfl rfl rfl (by simp only [St.put,Za,Zb] <;> exact rfl) ?_))))
          iterate 2 (refine st_op rfl (by simp (disch := omega) only [stepf,callOf,qop,fop,St.ev,St.put,cd,zd,Value.oneCell',tb_T,TypeDesc.aggB,getD_0,getD_s,Ze,Zd,Zc,Za,Zb,Zr,ZE,ZF,Zf,Zq,Zg,i64_w,Zt,Zs,Bool.not_true,Bool.not_false,qFieldAddr,fieldOf,Zl,Zo,Zv,Zw,Zj,Zk,Zx,Zy,qLoad,bload,pload,pureAll,D.pure?,ZC,ZD,qBin,iop,tb_W,tbO_W,qBuild,qBuildD,D.cell1,range_1,range_2,range_3,range_4,range_5,List.all_cons,List.all_nil,bfill,TI.place,TI.zeros,TI.kindOk,D.cells?,zp,Value.cells,ZQ,ZP,pvAll,D.pv?,t1,ti1,t3,ti3,t4,ti4,t5,ti5,t22,ti22,t24,ti24,t26,ti26,t35,ti35,t40,ti40,t50,ti50,t58,ti58,t60,ti60,t63,ti63,t69,ti69,t71,ti71,t75,ti75,t185,ti185,endCells_part,endCells_length,endCells_at0,Zh,hx] <;> exact rfl) ?_)
          iterate 7 (all_goals first | (refine st_g1 rfl rfl rfl (by simp (disch := omega) only [stepf,callOf,qop,fop,St.ev,St.put,cd,zd,Value.oneCell',tb_T,TypeDesc.aggB,getD_0,getD_s,Ze,Zd,Zc,Za,Zb,Zr,ZE,ZF,Zf,Zq,Zg,i64_w,Zt,Zs,Bool.not_true,Bool.not_false,qFieldAddr,fieldOf,Zl,Zo,Zv,Zw,Zj,Zk,Zx,Zy,qLoad,bload,pload,pureAll,D.pure?,ZC,ZD,qBin,iop,tb_W,tbO_W,qBuild,qBuildD,D.cell1,range_1,range_2,range_3,range_4,range_5,List.all_cons,List.all_nil,bfill,TI.place,TI.zeros,TI.kindOk,D.cells?,zp,Value.cells,ZQ,ZP,pvAll,D.pv?,t1,ti1,t3,ti3,t4,ti4,t5,ti5,t22,ti22,t24,ti24,t26,ti26,t35,ti35,t40,ti40,t50,ti50,t58,ti58,t60,ti60,t63,ti63,t69,ti69,t71,ti71,t75,ti75,t185,ti185,endCells_part,endCells_length,endCells_at0,Zh,hx] <;> exact rfl) ?_) | (first | (refine st_g0 rfl rfl rfl (by simp only [St.put,Za,Zb] <;> exact rfl) ?_) | (refine st_gu rfl rfl rfl (by simp only [St.put,Za,Zb] <;> exact rfl) ?_)) | (refine st_split rfl rfl rfl (by simp only [Za,Zb] <;> exact rfl) (by simp only [Za,Zb] <;> exact rfl) (fun hg => ?_) (fun hg => ?_) <;> (try simp only [Zp,Zi,ZJ,ZK,ne_eq,Zn,Zm,Bool.not_eq_true,Zu] at hg) <;> first | (refine st_g1 rfl rfl rfl (by simp (disch := omega) only [stepf,callOf,qop,fop,St.ev,St.put,cd,zd,Value.oneCell',tb_T,TypeDesc.aggB,getD_0,getD_s,Ze,Zd,Zc,Za,Zb,Zr,ZE,ZF,Zf,Zq,Zg,i64_w,Zt,Zs,Bool.not_true,Bool.not_false,qFieldAddr,fieldOf,Zl,Zo,Zv,Zw,Zj,Zk,Zx,Zy,qLoad,bload,pload,pureAll,D.pure?,ZC,ZD,qBin,iop,tb_W,tbO_W,qBuild,qBuildD,D.cell1,range_1,range_2,range_3,range_4,range_5,List.all_cons,List.all_nil,bfill,TI.place,TI.zeros,TI.kindOk,D.cells?,zp,Value.cells,ZQ,ZP,pvAll,D.pv?,t1,ti1,t3,ti3,t4,ti4,t5,ti5,t22,ti22,t24,ti24,t26,ti26,t35,ti35,t40,ti40,t50,ti50,t58,ti58,t60,ti60,t63,ti63,t69,ti69,t71,ti71,t75,ti75,t185,ti185,endCells_part,endCells_length,endCells_at0,Zh,hx] <;> exact rfl) ?_) | (first | (refine st_g0 rfl rfl rfl (by simp only [St.put,Za,Zb] <;> exact rfl) ?_) | (refine st_gu rfl rfl rfl (by simp only [St.put,Za,Zb] <;> exact rfl) ?_))))
          all_goals first | (first | (refine st_g0 rfl rfl rfl (by simp only [St.put,Za,Zb] <;> exact rfl) ?_) | (refine st_gu rfl rfl rfl (by simp only [St.put,Za,Zb] <;> exact rfl) ?_)) | (refine st_gy rfl rfl rfl rfl (by simp only [St.ev,getD_0,getD_s,zd,cd,Value.oneCell',Zr] <;> exact rfl) (by simp only [pvAll,capCells,D.pvC?,D.pvN?,D.pvL?,pureAll,D.pv?,D.pure?,St.ev,getD_0,getD_s,zd,cd,Value.oneCell',Zr,ZG,ZH,Zd,Zc,Zg] <;> exact rfl) rfl ((item_of (swi_yield hI hil hx hsp hc1 hnow).1)) (by simp only [St.put,Za,Zb] <;> exact rfl) ?_) | (refine st_split rfl rfl rfl (by simp only [Za,Zb] <;> exact rfl) (by simp only [Za,Zb] <;> exact rfl) (fun hg => ?_) (fun hg => ?_) <;> (try simp only [Zp,Zi,ZJ,ZK,ne_eq,Zn,Zm,Bool.not_eq_true,Zu] at hg) <;> first | (first | (refine st_g0 rfl rfl rfl (by simp only [St.put,Za,Zb] <;> exact rfl) ?_) | (refine st_gu rfl rfl rfl (by simp only [St.put,Za,Zb] <;> exact rfl) ?_)) | (refine st_gy rfl rfl rfl rfl (by simp only [St.ev,getD_0,getD_s,zd,cd,Value.oneCell',Zr] <;> exact rfl) (by simp only [pvAll,capCells,D.pvC?,D.pvN?,D.pvL?,pureAll,D.pv?,D.pure?,St.ev,getD_0,getD_s,zd,cd,Value.oneCell',Zr,ZG,ZH,Zd,Zc,Zg] <;> exact rfl) rfl ((item_of (swi_yield hI hil hx hsp hc1 hnow).1)) (by simp only [St.put,Za,Zb] <;> exact rfl) ?_))
          (all_goals first | (refine st_g1 rfl rfl rfl (by simp (disch := omega) only [stepf,callOf,qop,fop,St.ev,St.put,cd,zd,Value.oneCell',tb_T,TypeDesc.aggB,getD_0,getD_s,Ze,Zd,Zc,Za,Zb,Zr,ZE,ZF,Zf,Zq,Zg,i64_w,Zt,Zs,Bool.not_true,Bool.not_false,qFieldAddr,fieldOf,Zl,Zo,Zv,Zw,Zj,Zk,Zx,Zy,qLoad,bload,pload,pureAll,D.pure?,ZC,ZD,qBin,iop,tb_W,tbO_W,qBuild,qBuildD,D.cell1,range_1,range_2,range_3,range_4,range_5,List.all_cons,List.all_nil,bfill,TI.place,TI.zeros,TI.kindOk,D.cells?,zp,Value.cells,ZQ,ZP,pvAll,D.pv?,t1,ti1,t3,ti3,t4,ti4,t5,ti5,t22,ti22,t24,ti24,t26,ti26,t35,ti35,t40,ti40,t50,ti50,t58,ti58,t60,ti60,t63,ti63,t69,ti69,t71,ti71,t75,ti75,t185,ti185,endCells_part,endCells_length,endCells_at0,Zh,hx] <;> exact rfl) ?_) | (first | (refine st_g0 rfl rfl rfl (by simp only [St.put,Za,Zb] <;> exact rfl) ?_) | (refine st_gu rfl rfl rfl (by simp only [St.put,Za,Zb] <;> exact rfl) ?_)) | (refine st_split rfl rfl rfl (by simp only [Za,Zb] <;> exact rfl) (by simp only [Za,Zb] <;> exact rfl) (fun hg => ?_) (fun hg => ?_) <;> (try simp only [Zp,Zi,ZJ,ZK,ne_eq,Zn,Zm,Bool.not_eq_true,Zu] at hg) <;> first | (refine st_g1 rfl rfl rfl (by simp (disch := omega) only [stepf,callOf,qop,fop,St.ev,St.put,cd,zd,Value.oneCell',tb_T,TypeDesc.aggB,getD_0,getD_s,Ze,Zd,Zc,Za,Zb,Zr,ZE,ZF,Zf,Zq,Zg,i64_w,Zt,Zs,Bool.not_true,Bool.not_false,qFieldAddr,fieldOf,Zl,Zo,Zv,Zw,Zj,Zk,Zx,Zy,qLoad,bload,pload,pureAll,D.pure?,ZC,ZD,qBin,iop,tb_W,tbO_W,qBuild,qBuildD,D.cell1,range_1,range_2,range_3,range_4,range_5,List.all_cons,List.all_nil,bfill,TI.place,TI.zeros,TI.kindOk,D.cells?,zp,Value.cells,ZQ,ZP,pvAll,D.pv?,t1,ti1,t3,ti3,t4,ti4,t5,ti5,t22,ti22,t24,ti24,t26,ti26,t35,ti35,t40,ti40,t50,ti50,t58,ti58,t60,ti60,t63,ti63,t69,ti69,t71,ti71,t75,ti75,t185,ti185,endCells_part,endCells_length,endCells_at0,Zh,hx] <;> exact rfl) ?_) | (first | (refine st_g0 rfl rfl rfl (by simp only [St.put,Za,Zb] <;> exact rfl) ?_) | (refine st_gu rfl rfl rfl (by simp only [St.put,Za,Zb] <;> exact rfl) ?_))))
          (refine st_op rfl (by simp (disch := omega) only [stepf,callOf,qop,fop,St.ev,St.put,cd,zd,Value.oneCell',tb_T,TypeDesc.aggB,getD_0,getD_s,Ze,Zd,Zc,Za,Zb,Zr,ZE,ZF,Zf,Zq,Zg,i64_w,Zt,Zs,Bool.not_true,Bool.not_false,qFieldAddr,fieldOf,Zl,Zo,Zv,Zw,Zj,Zk,Zx,Zy,qLoad,bload,pload,pureAll,D.pure?,ZC,ZD,qBin,iop,tb_W,tbO_W,qBuild,qBuildD,D.cell1,range_1,range_2,range_3,range_4,range_5,List.all_cons,List.all_nil,bfill,TI.place,TI.zeros,TI.kindOk,D.cells?,zp,Value.cells,ZQ,ZP,pvAll,D.pv?,t1,ti1,t3,ti3,t4,ti4,t5,ti5,t22,ti22,t24,ti24,t26,ti26,t35,ti35,t40,ti40,t50,ti50,t58,ti58,t60,ti60,t63,ti63,t69,ti69,t71,ti71,t75,ti75,t185,ti185,endCells_part,endCells_length,endCells_at0,Zh,hx] <;> exact rfl) ?_)
          refine aops_nil ?_
          exact hK
        refine exq_n ?_
        refine aw_cond false rfl (fun h => by cases h) (fun _ => ?_)
        refine aw_skip ?_
        refine exq_n ?_
        refine aw_regK hX hb [0, 1] rfl (σ' := ?s13) (fun K hK => ?h13) ?n13
        case h13 =>
          iterate 2 (refine st_op rfl (by simp (disch := omega) only [stepf,callOf,qop,fop,St.ev,St.put,cd,zd,Value.oneCell',tb_T,TypeDesc.aggB,getD_0,getD_s,Ze,Zd,Zc,Za,Zb,Zr,ZE,ZF,Zf,Zq,Zg,i64_w,Zt,Zs,endCells_part,endCells_length,endCells_at0,Zh] <;> exact rfl) ?_)
          refine aops_nil ?_
          exact hK
        refine exb_n ?_
        refine exq_n ?_
        refine aw_regK hX hb [0, 1] rfl (σ' := ?s14) (fun K hK => ?h14) ?n14
        case h14 =>
          iterate 2 (refine st_op rfl (by simp (disch := omega) only [stepf,callOf,qop,fop,St.ev,St.put,cd,zd,Value.oneCell',tb_T,TypeDesc.aggB,getD_0,getD_s,Ze,Zd,Zc,Za,Zb,Zr,ZE,ZF,Zf,Zq,Zg,i64_w,Zt,Zs,qBin,iop,t1,ti1,t3,ti3,endCells_part,endCells_length,endCells_at0,Zh] <;> exact rfl) ?_)
          refine aops_nil ?_
          exact hK
        refine exq_n ?_
        exact ⟨(i + 1, d + sp, st, false, k), by exact swi_out hI hil hx hsp hc1 hnow, by (try dsimp only); omega, wk_le ⟨rfl, leL_r rfl (leL_a (leL_a (leL_r rfl (leL_a (leL_r rfl (leL_r rfl (leL_r rfl (leL_r rfl (leL_a (leL_a (leL_a (leL_a (leL_a (leL_a (leL_a (leL_r rfl (leL_r rfl (leL_r rfl (leL_a (leL_a (leL_a (leL_a (leL_a (leL_a (leL_a (leL_a (leL_a (leL_a (leL_a (leL_a (leL_a (leL_a (leL_a (leL_a (leL_a (leL_a (leL_a (leL_a (leL_a (leL_a (leL_a (leL_a (leL_a (leL_a (leL_a (leL_a (leL_a (leL_a (leL_a (leL_a (leL_a (leL_a (leL_a (leL_a (leL_a (leL_a (leL_a (leL_a (leL_a (leL_a (leL_a (leL_a (leL_a (leL_a (leL_a (leL_a (leL_a (leL_a (leL_a (leL_a (leL_a (leL_a (leL_a (leL_a (leL_a (leL_a (leL_a (leL_a (leL_a (leL_nil)))))))))))))))))))))))))))))))))))))))))))))))))))))))))))))))))))))))))))))))), (leB_r rfl (leL_r rfl (leL_r rfl (leL_nil))) (leB_nil _)), (leV_nil _), rfl, rfl⟩⟩
      · refine aw_regK hX hb [0, 1, 2, 3, 4] rfl (σ' := ?s15) (fun K hK => ?h15) ?n15
        case h15 =>
          iterate 2 (refine st_op rfl (by simp (disch := omega) only [stepf,callOf,qop,fop,St.ev,St.put,cd,zd,Value.oneCell',tb_T,TypeDesc.aggB,getD_0,getD_s,Ze,Zd,Zc,Za,Zb,Zr,ZE,ZF,Zf,Zq,Zg,i64_w,Zt,Zs,Bool.not_true,Bool.not_false,t4,ti4,t58,ti58,endCells_part,endCells_length,endCells_at0,Zh] <;> exact rfl) ?_)
          iterate 2 (all_goals first | (refine st_g1 rfl rfl rfl (by simp (disch := omega) only [stepf,callOf,qop,fop,St.ev,St.put,cd,zd,Value.oneCell',tb_T,TypeDesc.aggB,getD_0,getD_s,Ze,Zd,Zc,Za,Zb,Zr,ZE,ZF,Zf,Zq,Zg,i64_w,Zt,Zs,Bool.not_true,Bool.not_false,t4,ti4,t58,ti58,endCells_part,endCells_length,endCells_at0,Zh] <;> exact rfl) ?_) | (first | (refine st_g0 rfl rfl rfl (by simp only [St.put,Za,Zb] <;> exact rfl) ?_) | (refine st_gu rfl rfl rfl (by simp only [St.put,Za,Zb] <;> exact rfl) ?_)) | (refine st_split rfl rfl rfl (by simp only [Za,Zb] <;> exact rfl) (by simp only [Za,Zb] <;> exact rfl) (fun hg => ?_) (fun hg => ?_) <;> (try simp only [Zp,Zi,ZJ,ZK,ne_eq,Zn,Zm,Bool.not_eq_true,Zu] at hg) <;> first | (refine st_g1 rfl rfl rfl (by simp (disch := omega) only [stepf,callOf,qop,fop,St.ev,St.put,cd,zd,Value.oneCell',tb_T,TypeDesc.aggB,getD_0,getD_s,Ze,Zd,Zc,Za,Zb,Zr,ZE,ZF,Zf,Zq,Zg,i64_w,Zt,Zs,Bool.not_true,Bool.not_false,t4,ti4,t58,ti58,endCells_part,endCells_length,endCells_at0,Zh] <;> exact rfl) ?_) | (first | (refine st_g0 rfl rfl rfl (by simp only [St.put,Za,Zb] <;> exact rfl) ?_) | (refine st_gu rfl rfl rfl (by simp only [St.put,Za,Zb] <;> exact rfl) ?_))))
          (refine st_op rfl (by simp (disch := omega) only [stepf,callOf,qop,fop,St.ev,St.put,cd,zd,Value.oneCell',tb_T,TypeDesc.aggB,getD_0,getD_s,Ze,Zd,Zc,Za,Zb,Zr,ZE,ZF,Zf,Zq,Zg,i64_w,Zt,Zs,Bool.not_true,Bool.not_false,t4,ti4,t58,ti58,endCells_part,endCells_length,endCells_at0,Zh] <;> exact rfl) ?_)
          refine aops_nil ?_
          exact hK
        refine exq_n ?_
        refine aw_cond false rfl (fun h => by cases h) (fun _ => ?_)
        refine aw_skip ?_
        refine exq_n ?_
        refine aw_seq ?_
        refine aw_seq ?_
        refine aw_regK hX hb [0, 1, 2, 3, 4, 5, 6, 7, 8, 9, 10, 11, 12, 13, 14, 15] rfl (σ' := ?s16) (fun K hK => ?h16) ?n16
        case h16 =>
          iterate 3 (refine st_op rfl (by simp (disch := omega) only [stepf,callOf,qop,fop,St.ev,St.put,cd,zd,Value.oneCell',tb_T,TypeDesc.aggB,getD_0,getD_s,Ze,Zd,Zc,Za,Zb,Zr,ZE,ZF,Zf,Zq,Zg,i64_w,Zt,Zs,Bool.not_true,Bool.not_false,qFieldAddr,fieldOf,Zl,Zo,Zv,Zw,Zj,Zk,Zx,Zy,qLoad,bload,pload,pureAll,D.pure?,ZC,ZD,qBin,iop,tb_W,tbO_W,qBuild,qBuildD,D.cell1,range_1,range_2,range_3,range_4,range_5,List.all_cons,List.all_nil,bfill,TI.place,TI.zeros,TI.kindOk,D.cells?,zp,Value.cells,ZQ,ZP,pvAll,D.pv?,t1,ti1,t3,ti3,t4,ti4,t5,ti5,t22,ti22,t24,ti24,t26,ti26,t35,ti35,t40,ti40,t50,ti50,t58,ti58,t60,ti60,t63,ti63,t69,ti69,t71,ti71,t75,ti75,t185,ti185,endCells_part,endCells_length,endCells_at0,Zh,hx] <;> exact rfl) ?_)
          (all_goals first | (refine st_g1 rfl rfl rfl (by simp (disch := omega) only [stepf,callOf,qop,fop,St.ev,St.put,cd,zd,Value.oneCell',tb_T,TypeDesc.aggB,getD_0,getD_s,Ze,Zd,Zc,Za,Zb,Zr,ZE,ZF,Zf,Zq,Zg,i64_w,Zt,Zs,Bool.not_true,Bool.not_false,qFieldAddr,fieldOf,Zl,Zo,Zv,Zw,Zj,Zk,Zx,Zy,qLoad,bload,pload,pureAll,D.pure?,ZC,ZD,qBin,iop,tb_W,tbO_W,qBuild,qBuildD,D.cell1,range_1,range_2,range_3,range_4,range_5,List.all_cons,List.all_nil,bfill,TI.place,TI.zeros,TI.kindOk,D.cells?,zp,Value.cells,ZQ,ZP,pvAll,D.pv?,t1,ti1,t3,ti3,t4,ti4,t5,ti5,t22,ti22,t24,ti24,t26,ti26,t35,ti35,t40,ti40,t50,ti50,t58,ti58,t60,ti60,t63,ti63,t69,ti69,t71,ti71,t75,ti75,t185,ti185,endCells_part,endCells_length,endCells_at0,Zh,hx] <;> exact rfl) ?_) | (first | (refine st_g0 rfl rfl rfl (by simp only [St.put,Za,Zb] <;> exact rfl) ?_) | (refine st_gu rfl rfl rfl (by simp only [St.put,Za,Zb] <;> exact rfl) ?_)) | (refine st_split rfl rfl rfl (by simp only [Za,Zb] <;> exact rfl) (by simp only [Za,Zb] <;> exact rfl) (fun hg => ?_) (fun hg => ?_) <;> (try simp only [Zp,Zi,ZJ,ZK,ne_eq,Zn,Zm,Bool.not_eq_true,Zu] at hg) <;> first | (refine st_g1 rfl rfl rfl (by simp (disch := omega) only [stepf,callOf,qop,fop,St.ev,St.put,cd,zd,Value.oneCell',tb_T,TypeDesc.aggB,getD_0,getD_s,Ze,Zd,Zc,Za,Zb,Zr,ZE,ZF,Zf,Zq,Zg,i64_w,Zt,Zs,Bool.not_true,Bool.not_false,qFieldAddr,fieldOf,Zl,Zo,Zv,Zw,Zj,Zk,Zx,Zy,qLoad,bload,pload,pureAll,D.pure?,ZC,ZD,qBin,iop,tb_W,tbO_W,qBuild,qBuildD,D.cell1,range_1,range_2,range_3,range_4,range_5,List.all_cons,List.all_nil,bfill,TI.place,TI.zeros,TI.kindOk,D.cells?,zp,Value.cells,ZQ,ZP,pvAll,D.pv?,t1,ti1,t3,ti3,t4,ti4,t5,ti5,t22,ti22,t24,ti24,t26,ti26,t35,ti35,t40,ti40,t50,ti50,t58,ti58,t60,ti60,t63,ti63,t69,ti69,t71,ti71,t75,ti75,t185,ti185,endCells_part,endCells_length,endCells_at0,Zh,hx] <;> exact rfl) ?_) | (first | (refine st_g0 rfl rfl rfl (by simp only [St.put,Za,Zb] <;> exact rfl) ?_) | (refine st_gu rfl rfl rfl (by simp only [St.put,Za,Zb] <;> exact rfl) ?_))))
          iterate 2 (refine st_op rfl (by simp (disch := omega) only [stepf,callOf,qop,fop,St.ev,St.put,cd,zd,Value.oneCell',tb_T,TypeDesc.aggB,getD_0,getD_s,Ze,Zd,Zc,Za,Zb,Zr,ZE,ZF,Zf,Zq,Zg,i64_w,Zt,Zs,Bool.not_true,Bool.not_false,qFieldAddr,fieldOf,Zl,Zo,Zv,Zw,Zj,Zk,Zx,Zy,qLoad,bload,pload,pureAll,D.pure?,ZC,ZD,qBin,iop,tb_W,tbO_W,qBuild,qBuildD,D.cell1,range_1,range_2,range_3,range_4,range_5,List.all_cons,List.all_nil,bfill,TI.place,TI.zeros,TI.kindOk,D.cells?,zp,Value.cells,ZQ,ZP,pvAll,D.pv?,t1,ti1,t3,ti3,t4,ti4,t5,ti5,t22,ti22,t24,ti24,t26,ti26,t35,ti35,t40,ti40,t50,ti50,t58,ti58,t60,ti60,t63,ti63,t69,ti69,t71,ti71,t75,ti75,t185,ti185,endCells_part,endCells_length,endCells_at0,Zh,hx] <;> exact rfl) ?_)
          iterate 7 (all_goals first | (refine st_g1 rfl rfl rfl (by simp (disch := omega) only [stepf,callOf,qop,fop,St.ev,St.put,cd,zd,Value.oneCell',tb_T,TypeDesc.aggB,getD_0,getD_s,Ze,Zd,Zc,Za,Zb,Zr,ZE,ZF,Zf,Zq,Zg,i64_w,Zt,Zs,Bool.not_true,Bool.not_false,qFieldAddr,fieldOf,Zl,Zo,Zv,Zw,Zj,Zk,Zx,Zy,qLoad,bload,pload,pureAll,D.pure?,ZC,ZD,qBin,iop,tb_W,tbO_W,qBuild,qBuildD,D.cell1,range_1,range_2,range_3,range_4,range_5,List.all_cons,List.all_nil,bfill,TI.place,TI.zeros,TI.kindOk,D.cells?,zp,Value.cells,ZQ,ZP,pvAll,D.pv?,t1,ti1,t3,ti3,t4,ti4,t5,ti5,t22,ti22,t24,ti24,t26,ti26,t35,ti35,t40,ti40,t50,ti50,t58,ti58,t60,ti60,t63,ti63,t69,ti69,t71,ti71,t75,ti75,t185,ti185,endCells_part,endCells_length,endCells_at0,Zh,hx] <;> exact rfl) ?_) | (first | (refine st_g0 rfl rfl rfl (by simp only [St.put,Za,Zb] <;> exact rfl) ?_) | (refine st_gu rfl rfl rfl (by simp only [St.put,Za,Zb] <;> exact rfl) ?_)) | (refine st_split rfl rfl rfl (by simp only [Za,Zb] <;> exact rfl) (by simp only [Za,Zb] <;> exact rfl) (fun hg => ?_) (fun hg => ?_) <;> (try simp only [Zp,Zi,ZJ,ZK,ne_eq,Zn,Zm,Bool.not_eq_true,Zu] at hg) <;> first | (refine st_g1 rfl rfl rfl (by simp (disch := omega) only [stepf,callOf,qop,fop,St.ev,St.put,cd,zd,Value.oneCell',tb_T,TypeDesc.aggB,getD_0,getD_s,Ze,Zd,Zc,Za,Zb,Zr,ZE,ZF,Zf,Zq,Zg,i64_w,Zt,Zs,Bool.not_true,Bool.not_false,qFieldAddr,fieldOf,Zl,Zo,Zv,Zw,Zj,Zk,Zx,Zy,qLoad,bload,pload,pureAll,D.pure?,ZC,ZD,qBin,iop,tb_W,tbO_W,qBuild,qBuildD,D.cell1,range_1,range_2,range_3,range_4,range_5,List.all_cons,List.all_nil,bfill,TI.place,TI.zeros,TI.kindOk,D.cells?,zp,Value.cells,ZQ,ZP,pvAll,D.pv?,t1,ti1,t3,ti3,t4,ti4,t5,ti5,t22,ti22,t24,ti24,t26,ti26,t35,ti35,t40,ti40,t50,ti50,t58,ti58,t60,ti60,t63,ti63,t69,ti69,t71,ti71,t75,ti75,t185,ti185,endCells_part,endCells_length,endCells_at0,Zh,hx] <;> exact rfl) ?_) | (first | (refine st_g0 rfl rfl rfl (by simp only [St.put,Za,Zb] <;> exact rfl) ?_) | (refine st_gu rfl rfl rfl (by simp only [St.put,Za,Zb] <;> exact rfl) ?_))))
          all_goals first | (first | (refine st_g0 rfl rfl rfl (by simp only [St.put,Za,Zb] <;> exact rfl) ?_) | (refine st_gu rfl rfl rfl (by simp only [St.put,Za,Zb] <;> exact rfl) ?_)) | (refine st_gy rfl rfl rfl rfl (by simp only [St.ev,getD_0,getD_s,zd,cd,Value.oneCell',Zr] <;> exact rfl) (by simp only [pvAll,capCells,D.pvC?,D.pvN?,D.pvL?,pureAll,D.pv?,D.pure?,St.ev,getD_0,getD_s,zd,cd,Value.oneCell',Zr,ZG,ZH,Zd,Zc,Zg] <;> exact rfl) rfl ((item_of (swi_yield hI hil hx hsp hc1 hnow).1)) (by simp only [St.put,Za,Zb] <;> exact rfl) ?_) | (refine st_split rfl rfl rfl (by simp only [Za,Zb] <;> exact rfl) (by simp only [Za,Zb] <;> exact rfl) (fun hg => ?_) (fun hg => ?_) <;> (try simp only [Zp,Zi,ZJ,ZK,ne_eq,Zn,Zm,Bool.not_eq_true,Zu] at hg) <;> first | (first | (refine st_g0 rfl rfl rfl (by simp only [St.put,Za,Zb] <;> exact rfl) ?_) | (refine st_gu rfl rfl rfl (by simp only [St.put,Za,Zb] <;> exact rfl) ?_)) | (refine st_gy rfl rfl rfl rfl (by simp only [St.ev,getD_0,getD_s,zd,cd,Value.oneCell',Zr] <;> exact rfl) (by simp only [pvAll,capCells,D.pvC?,D.pvN?,D.pvL?,pureAll,D.pv?,D.pure?,St.ev,getD_0,getD_s,zd,cd,Value.oneCell',Zr,ZG,ZH,Zd,Zc,Zg] <;> exact rfl) rfl ((item_of (swi_yield hI hil hx hsp hc1 hnow).1)) (by simp only [St.put,Za,Zb] <;> exact rfl) ?_))
          (all_goals first | (refine st_g1 rfl rfl rfl (by simp (disch := omega) only [stepf,callOf,qop,fop,St.ev,St.put,cd,zd,Value.oneCell',tb_T,TypeDesc.aggB,getD_0,getD_s,Ze,Zd,Zc,Za,Zb,Zr,ZE,ZF,Zf,Zq,Zg,i64_w,Zt,Zs,Bool.not_true,Bool.not_false,qFieldAddr,fieldOf,Zl,Zo,Zv,Zw,Zj,Zk,Zx,Zy,qLoad,bload,pload,pureAll,D.pure?,ZC,ZD,qBin,iop,tb_W,tbO_W,qBuild,qBuildD,D.cell1,range_1,range_2,range_3,range_4,range_5,List.all_cons,List.all_nil,bfill,TI.place,TI.zeros,TI.kindOk,D.cells?,zp,Value.cells,ZQ,ZP,pvAll,D.pv?,t1,ti1,t3,ti3,t4,ti4,t5,ti5,t22,ti22,t24,ti24,t26,ti26,t35,ti35,t40,ti40,t50,ti50,t58,ti58,t60,ti60,t63,ti63,t69,ti69,t71,ti71,t75,ti75,t185,ti185,endCells_part,endCells_length,endCells_at0,Zh,hx] <;> exact rfl) ?_) | (first | (refine st_g0 rfl rfl rfl (by simp only [St.put,Za,Zb] <;> exact rfl) ?_) | (refine st_gu rfl rfl rfl (by simp only [St.put,Za,Zb] <;> exact rfl) ?_)) | (refine st_split rfl rfl rfl (by simp only [Za,Zb] <;> exact rfl) (by simp only [Za,Zb] <;> exact rfl) (fun hg => ?_) (fun hg => ?_) <;> (try simp only [Zp,Zi,ZJ,ZK,ne_eq,Zn,Zm,Bool.not_eq_true,Zu] at hg) <;> first | (refine st_g1 rfl rfl rfl (by simp (disch := omega) only [stepf,callOf,qop,fop,St.ev,St.put,cd,zd,Value.oneCell',tb_T,TypeDesc.aggB,getD_0,getD_s,Ze,Zd,Zc,Za,Zb,Zr,ZE,ZF,Zf,Zq,Zg,i64_w,Zt,Zs,Bool.not_true,Bool.not_false,qFieldAddr,fieldOf,Zl,Zo,Zv,Zw,Zj,Zk,Zx,Zy,qLoad,bload,pload,pureAll,D.pure?,ZC,ZD,qBin,iop,tb_W,tbO_W,qBuild,qBuildD,D.cell1,range_1,range_2,range_3,range_4,range_5,List.all_cons,List.all_nil,bfill,TI.place,TI.zeros,TI.kindOk,D.cells?,zp,Value.cells,ZQ,ZP,pvAll,D.pv?,t1,ti1,t3,ti3,t4,ti4,t5,ti5,t22,ti22,t24,ti24,t26,ti26,t35,ti35,t40,ti40,t50,ti50,t58,ti58,t60,ti60,t63,ti63,t69,ti69,t71,ti71,t75,ti75,t185,ti185,endCells_part,endCells_length,endCells_at0,Zh,hx] <;> exact rfl) ?_) | (first | (refine st_g0 rfl rfl rfl (by simp only [St.put,Za,Zb] <;> exact rfl) ?_) | (refine st_gu rfl rfl rfl (by simp only [St.put,Za,Zb] <;> exact rfl) ?_))))
          (refine st_op rfl (by simp (disch := omega) only [stepf,callOf,qop,fop,St.ev,St.put,cd,zd,Value.oneCell',tb_T,TypeDesc.aggB,getD_0,getD_s,Ze,Zd,Zc,Za,Zb,Zr,ZE,ZF,Zf,Zq,Zg,i64_w,Zt,Zs,Bool.not_true,Bool.not_false,qFieldAddr,fieldOf,Zl,Zo,Zv,Zw,Zj,Zk,Zx,Zy,qLoad,bload,pload,pureAll,D.pure?,ZC,ZD,qBin,iop,tb_W,tbO_W,qBuild,qBuildD,D.cell1,range_1,range_2,range_3,range_4,range_5,List.all_cons,List.all_nil,bfill,TI.place,TI.zeros,TI.kindOk,D.cells?,zp,Value.cells,ZQ,ZP,pvAll,D.pv?,t1,ti1,t3,ti3,t4,ti4,t5,ti5,t22,ti22,t24,ti24,t26,ti26,t35,ti35,t40,ti40,t50,ti50,t58,ti58,t60,ti60,t63,ti63,t69,ti69,t71,ti71,t75,ti75,t185,ti185,endCells_part,endCells_length,endCells_at0,Zh,hx] <;> exact rfl) ?_)
          refine aops_nil ?_
          exact hK
        refine exq_n ?_
        refine aw_cond false rfl (fun h => by cases h) (fun _ => ?_)
        refine aw_skip ?_
        refine exq_n ?_
        refine aw_regK hX hb [0, 1] rfl (σ' := ?s17) (fun K hK => ?h17) ?n17
        case h17 =>
          iterate 2 (refine st_op rfl (by simp (disch := omega) only [stepf,callOf,qop,fop,St.ev,St.put,cd,zd,Value.oneCell',tb_T,TypeDesc.aggB,getD_0,getD_s,Ze,Zd,Zc,Za,Zb,Zr,ZE,ZF,Zf,Zq,Zg,i64_w,Zt,Zs,endCells_part,endCells_length,endCells_at0,Zh] <;> exact rfl) ?_)
          refine aops_nil ?_
          exact hK
        refine exb_n ?_
        refine exq_n ?_
        refine aw_regK hX hb [0, 1] rfl (σ' := ?s18) (fun K hK => ?h18) ?n18
        case h18 =>
          iterate 2 (refine st_op rfl (by simp (disch := omega) only [stepf,callOf,qop,fop,St.ev,St.put,cd,zd,Value.oneCell',tb_T,TypeDesc.aggB,getD_0,getD_s,Ze,Zd,Zc,Za,Zb,Zr,ZE,ZF,Zf,Zq,Zg,i64_w,Zt,Zs,qBin,iop,t1,ti1,t3,ti3,endCells_part,endCells_length,endCells_at0,Zh] <;> exact rfl) ?_)
          refine aops_nil ?_
          exact hK
        refine exq_n ?_
        exact ⟨(i + 1, d + sp, st, false, k + 1), by exact (swi_yield hI hil hx hsp hc1 hnow).2, by (try dsimp only); omega, wk_le ⟨rfl, leL_r rfl (leL_a (leL_a (leL_r rfl (leL_a (leL_r rfl (leL_r rfl (leL_r rfl (leL_r rfl (leL_a (leL_a (leL_a (leL_a (leL_a (leL_a (leL_a (leL_r rfl (leL_r rfl (leL_r rfl (leL_a (leL_a (leL_a (leL_a (leL_a (leL_a (leL_a (leL_a (leL_a (leL_a (leL_a (leL_a (leL_a (leL_a (leL_a (leL_a (leL_a (leL_a (leL_a (leL_a (leL_a (leL_a (leL_a (leL_a (leL_a (leL_a (leL_a (leL_a (leL_a (leL_a (leL_a (leL_a (leL_a (leL_a (leL_a (leL_a (leL_a (leL_a (leL_a (leL_a (leL_a (leL_a (leL_a (leL_a (leL_a (leL_a (leL_a (leL_a (leL_a (leL_a (leL_a (leL_a (leL_a (leL_a (leL_a (leL_a (leL_a (leL_a (leL_a (leL_a (leL_a (leL_nil)))))))))))))))))))))))))))))))))))))))))))))))))))))))))))))))))))))))))))))))), (leB_r rfl (leL_r rfl (leL_r rfl (leL_nil))) (leB_nil _)), (leV_nil _), rfl, rfl⟩⟩
      · refine aw_regK hX hb [0, 1, 2, 3, 4] rfl (σ' := ?s19) (fun K hK => ?h19) ?n19
        case h19 =>
          iterate 2 (refine st_op rfl (by simp (disch := omega) only [stepf,callOf,qop,fop,St.ev,St.put,cd,zd,Value.oneCell',tb_T,TypeDesc.aggB,getD_0,getD_s,Ze,Zd,Zc,Za,Zb,Zr,ZE,ZF,Zf,Zq,Zg,i64_w,Zt,Zs,Bool.not_true,Bool.not_false,t4,ti4,t58,ti58,endCells_part,endCells_length,endCells_at0,Zh] <;> exact rfl) ?_)
          iterate 2 (all_goals first | (refine st_g1 rfl rfl rfl (by simp (disch := omega) only [stepf,callOf,qop,fop,St.ev,St.put,cd,zd,Value.oneCell',tb_T,TypeDesc.aggB,getD_0,getD_s,Ze,Zd,Zc,Za,Zb,Zr,ZE,ZF,Zf,Zq,Zg,i64_w,Zt,Zs,Bool.not_true,Bool.not_false,t4,ti4,t58,ti58,endCells_part,endCells_length,endCells_at0,Zh] <;> exact rfl) ?_) | (first | (refine st_g0 rfl rfl rfl (by simp only [St.put,Za,Zb] <;> exact rfl) ?_) | (refine st_gu rfl rfl rfl (by simp only [St.put,Za,Zb] <;> exact rfl) ?_)) | (refine st_split rfl rfl rfl (by simp only [Za,Zb] <;> exact rfl) (by simp only [Za,Zb] <;> exact rfl) (fun hg => ?_) (fun hg => ?_) <;> (try simp only [Zp,Zi,ZJ,ZK,ne_eq,Zn,Zm,Bool.not_eq_true,Zu] at hg) <;> first | (refine st_g1 rfl rfl rfl (by simp (disch := omega) only [stepf,callOf,qop,fop,St.ev,St.put,cd,zd,Value.oneCell',tb_T,TypeDesc.aggB,getD_0,getD_s,Ze,Zd,Zc,Za,Zb,Zr,ZE,ZF,Zf,Zq,Zg,i64_w,Zt,Zs,Bool.not_true,Bool.not_false,t4,ti4,t58,ti58,endCells_part,endCells_length,endCells_at0,Zh] <;> exact rfl) ?_) | (first | (refine st_g0 rfl rfl rfl (by simp only [St.put,Za,Zb] <;> exact rfl) ?_) | (refine st_gu rfl rfl rfl (by simp only [St.put,Za,Zb] <;> exact rfl) ?_))))
          (refine st_op rfl (by simp (disch := omega) only [stepf,callOf,qop,fop,St.ev,St.put,cd,zd,Value.oneCell',tb_T,TypeDesc.aggB,getD_0,getD_s,Ze,Zd,Zc,Za,Zb,Zr,ZE,ZF,Zf,Zq,Zg,i64_w,Zt,Zs,Bool.not_true,Bool.not_false,t4,ti4,t58,ti58,endCells_part,endCells_length,endCells_at0,Zh] <;> exact rfl) ?_)
          refine aops_nil ?_
          exact hK
        refine exq_n ?_
        refine aw_cond true rfl (fun _ => ?_) (fun h => by cases h)
        refine aw_regK hX hb [0, 1, 2] rfl (σ' := ?s20) (fun K hK => ?h20) ?n20
        case h20 =>
          iterate 3 (refine st_op rfl (by simp (disch := omega) only [stepf,callOf,qop,fop,St.ev,St.put,cd,zd,Value.oneCell',tb_T,TypeDesc.aggB,getD_0,getD_s,Ze,Zd,Zc,Za,Zb,Zr,ZE,ZF,Zf,Zq,Zg,i64_w,Zt,Zs,qFieldAddr,fieldOf,Zl,Zo,Zv,Zw,Zj,Zk,Zx,Zy,qLoad,bload,pload,pureAll,D.pure?,ZC,ZD,t3,ti3,t58,ti58,t60,ti60,t185,ti185,endCells_part,endCells_length,endCells_at0,Zh,hx] <;> exact rfl) ?_)
          refine aops_nil ?_
          exact hK
        refine exq_n ?_
        refine aw_seq ?_
        refine aw_seq ?_
        refine aw_regK hX hb [0, 1, 2, 3, 4, 5, 6, 7, 8, 9, 10, 11, 12, 13, 14, 15] rfl (σ' := ?s21) (fun K hK => ?h21) ?n21
        case h21 =>
          iterate 3 (refine st_op rfl (by simp (disch := omega) only [stepf,callOf,qop,fop,St.ev,St.put,cd,zd,Value.oneCell',tb_T,TypeDesc.aggB,getD_0,getD_s,Ze,Zd,Zc,Za,Zb,Zr,ZE,ZF,Zf,Zq,Zg,i64_w,Zt,Zs,Bool.not_true,Bool.not_false,qFieldAddr,fieldOf,Zl,Zo,Zv,Zw,Zj,Zk,Zx,Zy,qLoad,bload,pload,pureAll,D.pure?,ZC,ZD,qBin,iop,tb_W,tbO_W,qBuild,qBuildD,D.cell1,range_1,range_2,range_3,range_4,range_5,List.all_cons,List.all_nil,bfill,TI.place,TI.zeros,TI.kindOk,D.cells?,zp,Value.cells,ZQ,ZP,pvAll,D.pv?,t1,ti1,t3,ti3,t4,ti4,t5,ti5,t22,ti22,t24,ti24,t26,ti26,t35,ti35,t40,ti40,t50,ti50,t58,ti58,t60,ti60,t63,ti63,t69,ti69,t71,ti71,t75,ti75,t185,ti185,endCells_part,endCells_length,endCells_at0,Zh,hx] <;> exact rfl) ?_)
          (all_goals first | (refine st_g1 rfl rfl rfl (by simp (disch := omega) only [stepf,callOf,qop,fop,St.ev,St.put,cd,zd,Value.oneCell',tb_T,TypeDesc.aggB,getD_0,getD_s,Ze,Zd,Zc,Za,Zb,Zr,ZE,ZF,Zf,Zq,Zg,i64_w,Zt,Zs,Bool.not_true,Bool.not_false,qFieldAddr,fieldOf,Zl,Zo,Zv,Zw,Zj,Zk,Zx,Zy,qLoad,bload,pload,pureAll,D.pure?,ZC,ZD,qBin,iop,tb_W,tbO_W,qBuild,qBuildD,D.cell1,range_1,range_2,range_3,range_4,range_5,List.all_cons,List.all_nil,bfill,TI.place,TI.zeros,TI.kindOk,D.cells?,zp,Value.cells,ZQ,ZP,pvAll,D.pv?,t1,ti1,t3,ti3,t4,ti4,t5,ti5,t22,ti22,t24,ti24,t26,ti26,t35,ti35,t40,ti40,t50,ti50,t58,ti58,t60,ti60,t63,ti63,t69,ti69,t71,ti71,t75,ti75,t185,ti185,endCells_part,endCells_length,endCells_at0,Zh,hx] <;> exact rfl) ?_) | (first | (refine st_g0 rfl rfl rfl (by simp only [St.put,Za,Zb] <;> exact rfl) ?_) | (refine st_gu rfl rfl rfl (by simp only [St.put,Za,Zb] <;> exact rfl) ?_)) | (refine st_split rfl rfl rfl (by simp only [Za,Zb] <;> exact rfl) (by simp only [Za,Zb] <;> exact rfl) (fun hg => ?_) (fun hg => ?_) <;> (try simp only [Zp,Zi,ZJ,ZK,ne_eq,Zn,Zm,Bool.not_eq_true,Zu] at hg) <;> first | (refine st_g1 rfl rfl rfl (by simp (disch := omega) only [stepf,callOf,qop,fop,St.ev,St.put,cd,zd,Value.oneCell',tb_T,TypeDesc.aggB,getD_0,getD_s,Ze,Zd,Zc,Za,Zb,Zr,ZE,ZF,Zf,Zq,Zg,i64_w,Zt,Zs,Bool.not_true,Bool.not_false,qFieldAddr,fieldOf,Zl,Zo,Zv,Zw,Zj,Zk,Zx,Zy,qLoad,bload,pload,pureAll,D.pure?,ZC,ZD,qBin,iop,tb_W,tbO_W,qBuild,qBuildD,D.cell1,range_1,range_2,range_3,range_4,range_5,List.all_cons,List.all_nil,bfill,TI.place,TI.zeros,TI.kindOk,D.cells?,zp,Value.cells,ZQ,ZP,pvAll,D.pv?,t1,ti1,t3,ti3,t4,ti4,t5,ti5,t22,ti22,t24,ti24,t26,ti26,t35,ti35,t40,ti40,t50,ti50,t58,ti58,t60,ti60,t63,ti63,t69,ti69,t71,ti71,t75,ti75,t185,ti185,endCells_part,endCells_length,endCells_at0,Zh,hx] <;> exact rfl) ?_) | (first | (refine st_g0 rfl rfl rfl (by simp only [St.put,Za,Zb] <;> exact rfl) ?_) | (refine st_gu rfl rfl rfl (by simp only [St.put,Za,Zb] <;> exact rfl) ?_))))
          iterate 2 (refine st_op rfl (by simp (disch := omega) only [stepf,callOf,qop,fop,St.ev,St.put,cd,zd,Value.oneCell',tb_T,TypeDesc.aggB,getD_0,getD_s,Ze,Zd,Zc,Za,Zb,Zr,ZE,ZF,Zf,Zq,Zg,i64_w,Zt,Zs,Bool.not_true,Bool.not_false,qFieldAddr,fieldOf,Zl,Zo,Zv,Zw,Zj,Zk,Zx,Zy,qLoad,bload,pload,pureAll,D.pure?,ZC,ZD,qBin,iop,tb_W,tbO_W,qBuild,qBuildD,D.cell1,range_1,range_2,range_3,range_4,range_5,List.all_cons,List.all_nil,bfill,TI.place,TI.zeros,TI.kindOk,D.cells?,zp,Value.cells,ZQ,ZP,pvAll,D.pv?,t1,ti1,t3,ti3,t4,ti4,t5,ti5,t22,ti22,t24,ti24,t26,ti26,t35,ti35,t40,ti40,t50,ti50,t58,ti58,t60,ti60,t63,ti63,t69,ti69,t71,ti71,t75,ti75,t185,ti185,endCells_part,endCells_length,endCells_at0,Zh,hx] <;> exact rfl) ?_)
          iterate 7 (all_goals first | (refine st_g1 rfl rfl rfl (by simp (disch := omega) only [stepf,callOf,qop,fop,St.ev,St.put,cd,zd,Value.oneCell',tb_T,TypeDesc.aggB,getD_0,getD_s,Ze,Zd,Zc,Za,Zb,Zr,ZE,ZF,Zf,Zq,Zg,i64_w,Zt,Zs,Bool.not_true,Bool.not_false,qFieldAddr,fieldOf,Zl,Zo,Zv,Zw,Zj,Zk,Zx,Zy,qLoad,bload,pload,pureAll,D.pure?,ZC,ZD,qBin,iop,tb_W,tbO_W,qBuild,qBuildD,D.cell1,range_1,range_2,range_3,range_4,range_5,List.all_cons,List.all_nil,bfill,TI.place,TI.zeros,TI.kindOk,D.cells?,zp,Value.cells,ZQ,ZP,pvAll,D.pv?,t1,ti1,t3,ti3,t4,ti4,t5,ti5,t22,ti22,t24,ti24,t26,ti26,t35,ti35,t40,ti40,t50,ti50,t58,ti58,t60,ti60,t63,ti63,t69,ti69,t71,ti71,t75,ti75,t185,ti185,endCells_part,endCells_length,endCells_at0,Zh,hx] <;> exact rfl) ?_) | (first | (refine st_g0 rfl rfl rfl (by simp only [St.put,Za,Zb] <;> exact rfl) ?_) | (refine st_gu rfl rfl rfl (by simp only [St.put,Za,Zb] <;> exact rfl) ?_)) | (refine st_split rfl rfl rfl (by simp only [Za,Zb] <;> exact rfl) (by simp only [Za,Zb] <;> exact rfl) (fun hg => ?_) (fun hg => ?_) <;> (try simp only [Zp,Zi,ZJ,ZK,ne_eq,Zn,Zm,Bool.not_eq_true,Zu] at hg) <;> first | (refine st_g1 rfl rfl rfl (by simp (disch := omega) only [stepf,callOf,qop,fop,St.ev,St.put,cd,zd,Value.oneCell',tb_T,TypeDesc.aggB,getD_0,getD_s,Ze,Zd,Zc,Za,Zb,Zr,ZE,ZF,Zf,Zq,Zg,i64_w,Zt,Zs,Bool.not_true,Bool.not_false,qFieldAddr,fieldOf,Zl,Zo,Zv,Zw,Zj,Zk,Zx,Zy,qLoad,bload,pload,pureAll,D.pure?,ZC,ZD,qBin,iop,tb_W,tbO_W,qBuild,qBuildD,D.cell1,range_1,range_2,range_3,range_4,range_5,List.all_cons,List.all_nil,bfill,TI.place,TI.zeros,TI.kindOk,D.cells?,zp,Value.cells,ZQ,ZP,pvAll,D.pv?,t1,ti1,t3,ti3,t4,ti4,t5,ti5,t22,ti22,t24,ti24,t26,ti26,t35,ti35,t40,ti40,t50,ti50,t58,ti58,t60,ti60,t63,ti63,t69,ti69,t71,ti71,t75,ti75,t185,ti185,endCells_part,endCells_length,endCells_at0,Zh,hx] <;> exact rfl) ?_) | (first | (refine st_g0 rfl rfl rfl (by simp only [St.put,Za,Zb] <;> exact rfl) ?_) | (refine st_gu rfl rfl rfl (by simp only [St.put,Za,Zb] <;> exact rfl) ?_))))
          all_goals first | (first | (refine st_g0 rfl rfl rfl (by simp only [St.put,Za,Zb] <;> exact rfl) ?_) | (refine st_gu rfl rfl rfl (by simp only [St.put,Za,Zb] <;> exact rfl) ?_)) | (refine st_gy rfl rfl rfl rfl (by simp only [St.ev,getD_0,getD_s,zd,cd,Value.oneCell',Zr] <;> exact rfl) (by simp only [pvAll,capCells,D.pvC?,D.pvN?,D.pvL?,pureAll,D.pv?,D.pure?,St.ev,getD_0,getD_s,zd,cd,Value.oneCell',Zr,ZG,ZH,Zd,Zc,Zg] <;> exact rfl) rfl ((item_of (swi_yield hI hil hx hsp hc1 hnow).1)) (by simp only [St.put,Za,Zb] <;> exact rfl) ?_) | (refine st_split rfl rfl rfl (by simp only [Za,Zb] <;> exact rfl) (by simp only [Za,Zb] <;> exact rfl) (fun hg => ?_) (fun hg => ?_) <;> (try simp only [Zp,Zi,ZJ,ZK,ne_eq,Zn,Zm,Bool.not_eq_true,Zu] at hg) <;> first | (first | (refine st_g0 rfl rfl rfl (by simp only [St.put,Za,Zb] <;> exact rfl) ?_) | (refine st_gu rfl rfl rfl (by simp only [St.put,Za,Zb] <;> exact rfl) ?_)) | (refine st_gy rfl rfl rfl rfl (by simp only [St.ev,getD_0,getD_s,zd,cd,Value.oneCell',Zr] <;> exact rfl) (by simp only [pvAll,capCells,D.pvC?,D.pvN?,D.pvL?,pureAll,D.pv?,D.pure?,St.ev,getD_0,getD_s,zd,cd,Value.oneCell',Zr,ZG,ZH,Zd,Zc,Zg] <;> exact rfl) rfl ((item_of (swi_yield hI hil hx hsp hc1 hnow).1)) (by simp only [St.put,Za,Zb] <;> exact rfl) ?_))
          (all_goals first | (refine st_g1 rfl rfl rfl (by simp (disch := omega) only [stepf,callOf,qop,fop,St.ev,St.put,cd,zd,Value.oneCell',tb_T,TypeDesc.aggB,getD_0,getD_s,Ze,Zd,Zc,Za,Zb,Zr,ZE,ZF,Zf,Zq,Zg,i64_w,Zt,Zs,Bool.not_true,Bool.not_false,qFieldAddr,fieldOf,Zl,Zo,Zv,Zw,Zj,Zk,Zx,Zy,qLoad,bload,pload,pureAll,D.pure?,ZC,ZD,qBin,iop,tb_W,tbO_W,qBuild,qBuildD,D.cell1,range_1,range_2,range_3,range_4,range_5,List.all_cons,List.all_nil,bfill,TI.place,TI.zeros,TI.kindOk,D.cells?,zp,Value.cells,ZQ,ZP,pvAll,D.pv?,t1,ti1,t3,ti3,t4,ti4,t5,ti5,t22,ti22,t24,ti24,t26,ti26,t35,ti35,t40,ti40,t50,ti50,t58,ti58,t60,ti60,t63,ti63,t69,ti69,t71,ti71,t75,ti75,t185,ti185,endCells_part,endCells_length,endCells_at0,Zh,hx] <;> exact rfl) ?_) | (first | (refine st_g0 rfl rfl rfl (by simp only [St.put,Za,Zb] <;> exact rfl) ?_) | (refine st_gu rfl rfl rfl (by simp only [St.put,Za,Zb] <;> exact rfl) ?_)) | (refine st_split rfl rfl rfl (by simp only [Za,Zb] <;> exact rfl) (by simp only [Za,Zb] <;> exact rfl) (fun hg => ?_) (fun hg => ?_) <;> (try simp only [Zp,Zi,ZJ,ZK,ne_eq,Zn,Zm,Bool.not_eq_true,Zu] at hg) <;> first | (refine st_g1 rfl rfl rfl (by simp (disch := omega) only [stepf,callOf,qop,fop,St.ev,St.put,cd,zd,Value.oneCell',tb_T,TypeDesc.aggB,getD_0,getD_s,Ze,Zd,Zc,Za,Zb,Zr,ZE,ZF,Zf,Zq,Zg,i64_w,Zt,Zs,Bool.not_true,Bool.not_false,qFieldAddr,fieldOf,Zl,Zo,Zv,Zw,Zj,Zk,Zx,Zy,qLoad,bload,pload,pureAll,D.pure?,ZC,ZD,qBin,iop,tb_W,tbO_W,qBuild,qBuildD,D.cell1,range_1,range_2,range_3,range_4,range_5,List.all_cons,List.all_nil,bfill,TI.place,TI.zeros,TI.kindOk,D.cells?,zp,Value.cells,ZQ,ZP,pvAll,D.pv?,t1,ti1,t3,ti3,t4,ti4,t5,ti5,t22,ti22,t24,ti24,t26,ti26,t35,ti35,t40,ti40,t50,ti50,t58,ti58,t60,ti60,t63,ti63,t69,ti69,t71,ti71,t75,ti75,t185,ti185,endCells_part,endCells_length,endCells_at0,Zh,hx] <;> exact rfl) ?_) | (first | (refine st_g0 rfl rfl rfl (by simp only [St.put,Za,Zb] <;> exact rfl) ?_) | (refine st_gu rfl rfl rfl (by simp only [St.put,Za,Zb] <;> exact rfl) ?_))))
          (refine st_op rfl (by simp (disch := omega) only [stepf,callOf,qop,fop,St.ev,St.put,cd,zd,Value.oneCell',tb_T,TypeDesc.aggB,getD_0,getD_s,Ze,Zd,Zc,Za,Zb,Zr,ZE,ZF,Zf,Zq,Zg,i64_w,Zt,Zs,Bool.not_true,Bool.not_false,qFieldAddr,fieldOf,Zl,Zo,Zv,Zw,Zj,Zk,Zx,Zy,qLoad,bload,pload,pureAll,D.pure?,ZC,ZD,qBin,iop,tb_W,tbO_W,qBuild,qBuildD,D.cell1,range_1,range_2,range_3,range_4,range_5,List.all_cons,List.all_nil,bfill,TI.place,TI.zeros,TI.kindOk,D.cells?,zp,Value.cells,ZQ,ZP,pvAll,D.pv?,t1,ti1,t3,ti3,t4,ti4,t5,ti5,t22,ti22,t24,ti24,t26,ti26,t35,ti35,t40,ti40,t50,ti50,t58,ti58,t60,ti60,t63,ti63,t69,ti69,t71,ti71,t75,ti75,t185,ti185,endCells_part,endCells_length,endCells_at0,Zh,hx] <;> exact rfl) ?_)
          refine aops_nil ?_
          exact hK
        refine exq_n ?_
        refine aw_cond false rfl (fun h => by cases h) (fun _ => ?_)
        refine aw_skip ?_
        refine exq_n ?_
        refine aw_regK hX hb [0, 1] rfl (σ' := ?s22) (fun K hK => ?h22) ?n22
        case h22 =>
          iterate 2 (refine st_op rfl (by simp (disch := omega) only [stepf,callOf,qop,fop,St.ev,St.put,cd,zd,Value.oneCell',tb_T,TypeDesc.aggB,getD_0,getD_s,Ze,Zd,Zc,Za,Zb,Zr,ZE,ZF,Zf,Zq,Zg,i64_w,Zt,Zs,endCells_part,endCells_length,endCells_at0,Zh] <;> exact rfl) ?_)
          refine aops_nil ?_
          exact hK
        refine exb_n ?_
        refine exq_n ?_
        refine aw_regK hX hb [0, 1] rfl (σ' := ?s23) (fun K hK => ?h23) ?n23
        case h23 =>
          iterate 2 (refine st_op rfl (by simp (disch := omega) only [stepf,callOf,qop,fop,St.ev,St.put,cd,zd,Value.oneCell',tb_T,TypeDesc.aggB,getD_0,getD_s,Ze,Zd,Zc,Za,Zb,Zr,ZE,ZF,Zf,Zq,Zg,i64_w,Zt,Zs,qBin,iop,t1,ti1,t3,ti3,endCells_part,endCells_length,endCells_at0,Zh] <;> exact rfl) ?_)
          refine aops_nil ?_
          exact hK
        refine exq_n ?_
        exact ⟨(i + 1, d + sp, at2, true, k), by exact swi_in hI hil hx hsp ⟨ha1, ha2⟩ hc1 hnow, by (try dsimp only); omega, wk_le ⟨rfl, leL_r rfl (leL_a (leL_a (leL_r rfl (leL_a (leL_r rfl (leL_r rfl (leL_r rfl (leL_r rfl (leL_a (leL_a (leL_a (leL_a (leL_a (leL_a (leL_a (leL_r rfl (leL_r rfl (leL_r rfl (leL_a (leL_a (leL_a (leL_a (leL_a (leL_a (leL_a (leL_a (leL_a (leL_a (leL_a (leL_a (leL_a (leL_a (leL_a (leL_a (leL_a (leL_a (leL_a (leL_a (leL_a (leL_a (leL_a (leL_a (leL_a (leL_a (leL_a (leL_a (leL_a (leL_a (leL_a (leL_a (leL_a (leL_a (leL_a (leL_a (leL_a (leL_a (leL_a (leL_a (leL_a (leL_a (leL_a (leL_a (leL_a (leL_a (leL_a (leL_a (leL_a (leL_a (leL_a (leL_a (leL_a (leL_a (leL_a (leL_a (leL_a (leL_a (leL_a (leL_a (leL_a (leL_nil)))))))))))))))))))))))))))))))))))))))))))))))))))))))))))))))))))))))))))))))), (leB_r rfl (leL_r rfl (leL_r rfl (leL_nil))) (leB_nil _)), (leV_nil _), rfl, rfl⟩⟩
      · refine aw_regK hX hb [0, 1, 2, 3, 4] rfl (σ' := ?s24) (fun K hK => ?h24) ?n24
        case h24 =>
          iterate 2 (refine st_op rfl (by simp (disch := omega) only [stepf,callOf,qop,fop,St.ev,St.put,cd,zd,Value.oneCell',tb_T,TypeDesc.aggB,getD_0,getD_s,Ze,Zd,Zc,Za,Zb,Zr,ZE,ZF,Zf,Zq,Zg,i64_w,Zt,Zs,Bool.not_true,Bool.not_false,t4,ti4,t58,ti58,endCells_part,endCells_length,endCells_at0,Zh] <;> exact rfl) ?_)
          iterate 2 (all_goals first | (refine st_g1 rfl rfl rfl (by simp (disch := omega) only [stepf,callOf,qop,fop,St.ev,St.put,cd,zd,Value.oneCell',tb_T,TypeDesc.aggB,getD_0,getD_s,Ze,Zd,Zc,Za,Zb,Zr,ZE,ZF,Zf,Zq,Zg,i64_w,Zt,Zs,Bool.not_true,Bool.not_false,t4,ti4,t58,ti58,endCells_part,endCells_length,endCells_at0,Zh] <;> exact rfl) ?_) | (first | (refine st_g0 rfl rfl rfl (by simp only [St.put,Za,Zb] <;> exact rfl) ?_) | (refine st_gu rfl rfl rfl (by simp only [St.put,Za,Zb] <;> exact rfl) ?_)) | (refine st_split rfl rfl rfl (by simp only [Za,Zb] <;> exact rfl) (by simp only [Za,Zb] <;> exact rfl) (fun hg => ?_) (fun hg => ?_) <;> (try simp only [Zp,Zi,ZJ,ZK,ne_eq,Zn,Zm,Bool.not_eq_true,Zu] at hg) <;> first | (refine st_g1 rfl rfl rfl (by simp (disch := omega) only [stepf,callOf,qop,fop,St.ev,St.put,cd,zd,Value.oneCell',tb_T,TypeDesc.aggB,getD_0,getD_s,Ze,Zd,Zc,Za,Zb,Zr,ZE,ZF,Zf,Zq,Zg,i64_w,Zt,Zs,Bool.not_true,Bool.not_false,t4,ti4,t58,ti58,endCells_part,endCells_length,endCells_at0,Zh] <;> exact rfl) ?_) | (first | (refine st_g0 rfl rfl rfl (by simp only [St.put,Za,Zb] <;> exact rfl) ?_) | (refine st_gu rfl rfl rfl (by simp only [St.put,Za,Zb] <;> exact rfl) ?_))))
          (refine st_op rfl (by simp (disch := omega) only [stepf,callOf,qop,fop,St.ev,St.put,cd,zd,Value.oneCell',tb_T,TypeDesc.aggB,getD_0,getD_s,Ze,Zd,Zc,Za,Zb,Zr,ZE,ZF,Zf,Zq,Zg,i64_w,Zt,Zs,Bool.not_true,Bool.not_false,t4,ti4,t58,ti58,endCells_part,endCells_length,endCells_at0,Zh] <;> exact rfl) ?_)
          refine aops_nil ?_
          exact hK
        refine exq_n ?_
        refine aw_cond false rfl (fun h => by cases h) (fun _ => ?_)
        refine aw_skip ?_
        refine exq_n ?_
        refine aw_seq ?_
        refine aw_seq ?_
        refine aw_regK hX hb [0, 1, 2, 3, 4, 5, 6, 7, 8, 9, 10, 11, 12, 13, 14, 15] rfl (σ' := ?s25) (fun K hK => ?h25) ?n25
        case h25 =>
          iterate 3 (refine st_op rfl (by simp (disch := omega) only [stepf,callOf,qop,fop,St.ev,St.put,cd,zd,Value.oneCell',tb_T,TypeDesc.aggB,getD_0,getD_s,Ze,Zd,Zc,Za,Zb,Zr,ZE,ZF,Zf,Zq,Zg,i64_w,Zt,Zs,Bool.not_true,Bool.not_false,qFieldAddr,fieldOf,Zl,Zo,Zv,Zw,Zj,Zk,Zx,Zy,qLoad,bload,pload,pureAll,D.pure?,ZC,ZD,qBin,iop,tb_W,tbO_W,qBuild,qBuildD,D.cell1,range_1,range_2,range_3,range_4,range_5,List.all_cons,List.all_nil,bfill,TI.place,TI.zeros,TI.kindOk,D.cells?,zp,Value.cells,ZQ,ZP,pvAll,D.pv?,t1,ti1,t3,ti3,t4,ti4,t5,ti5,t22,ti22,t24,ti24,t26,ti26,t35,ti35,t40,ti40,t50,ti50,t58,ti58,t60,ti60,t63,ti63,t69,ti69,t71,ti71,t75,ti75,t185,ti185,endCells_part,endCells_length,endCells_at0,Zh,hx] <;> exact rfl) ?_)
          (all_goals first | (refine st_g1 rfl rfl rfl (by simp (disch := omega) only [stepf,callOf,qop,fop,St.ev,St.put,cd,zd,Value.oneCell',tb_T,TypeDesc.aggB,getD_0,getD_s,Ze,Zd,Zc,Za,Zb,Zr,ZE,ZF,Zf,Zq,Zg,i64_w,Zt,Zs,Bool.not_true,Bool.not_false,qFieldAddr,fieldOf,Zl,Zo,Zv,Zw,Zj,Zk,Zx,Zy,qLoad,bload,pload,pureAll,D.pure?,ZC,ZD,qBin,iop,tb_W,tbO_W,qBuild,qBuildD,D.cell1,range_1,range_2,range_3,range_4,range_5,List.all_cons,List.all_nil,bfill,TI.place,TI.zeros,TI.kindOk,D.cells?,zp,Value.cells,ZQ,ZP,pvAll,D.pv?,t1,ti1,t3,ti3,t4,ti4,t5,ti5,t22,ti22,t24,ti24,t26,ti26,t35,ti35,t40,ti40,t50,ti50,t58,ti58,t60,ti60,t63,ti63,t69,ti69,t71,ti71,t75,ti75,t185,ti185,endCells_part,endCells_length,endCells_at0,Zh,hx] <;> exact rfl) ?_) | (first | (refine st_g0 rfl rfl rfl (by simp only [St.put,Za,Zb] <;> exact rfl) ?_) | (refine st_gu rfl rfl rfl (by simp only [St.put,Za,Zb] <;> exact rfl) ?_)) | (refine st_split rfl rfl rfl (by simp only [Za,Zb] <;> exact rfl) (by simp only [Za,Zb] <;> exact rfl) (fun hg => ?_) (fun hg => ?_) <;> (try simp only [Zp,Zi,ZJ,ZK,ne_eq,Zn,Zm,Bool.not_eq_true,Zu] at hg) <;> first | (refine st_g1 rfl rfl rfl (by simp (disch := omega) only [stepf,callOf,qop,fop,St.ev,St.put,cd,zd,Value.oneCell',tb_T,TypeDesc.aggB,getD_0,getD_s,Ze,Zd,Zc,Za,Zb,Zr,ZE,ZF,Zf,Zq,Zg,i64_w,Zt,Zs,Bool.not_true,Bool.not_false,qFieldAddr,fieldOf,Zl,Zo,Zv,Zw,Zj,Zk,Zx,Zy,qLoad,bload,pload,pureAll,D.pure?,ZC,ZD,qBin,iop,tb_W,tbO_W,qBuild,qBuildD,D.cell1,range_1,range_2,range_3,range_4,range_5,List.all_cons,List.all_nil,bfill,TI.place,TI.zeros,TI.kindOk,D.cells?,zp,Value.cells,ZQ,ZP,pvAll,D.pv?,t1,ti1,t3,ti3,t4,ti4,t5,ti5,t22,ti22,t24,ti24,t26,ti26,t35,ti35,t40,ti40,t50,ti50,t58,ti58,t60,ti60,t63,ti63,t69,ti69,t71,ti71,t75,ti75,t185,ti185,endCells_part,endCells_length,endCells_at0,Zh,hx] <;> exact rfl) ?_) | (first | (refine st_g0 rfl rfl rfl (by simp only [St.put,Za,Zb] <;> exact rfl) ?_) | (refine st_gu rfl rfl rfl (by simp only [St.put,Za,Zb] <;> exact rfl) ?_))))
          iterate 2 (refine st_op rfl (by simp (disch := omega) only [stepf,callOf,qop,fop,St.ev,St.put,cd,zd,Value.oneCell',tb_T,TypeDesc.aggB,getD_0,getD_s,Ze,Zd,Zc,Za,Zb,Zr,ZE,ZF,Zf,Zq,Zg,i64_w,Zt,Zs,Bool.not_true,Bool.not_false,qFieldAddr,fieldOf,Zl,Zo,Zv,Zw,Zj,Zk,Zx,Zy,qLoad,bload,pload,pureAll,D.pure?,ZC,ZD,qBin,iop,tb_W,tbO_W,qBuild,qBuildD,D.cell1,range_1,range_2,range_3,range_4,range_5,List.all_cons,List.all_nil,bfill,TI.place,TI.zeros,TI.kindOk,D.cells?,zp,Value.cells,ZQ,ZP,pvAll,D.pv?,t1,ti1,t3,ti3,t4,ti4,t5,ti5,t22,ti22,t24,ti24,t26,ti26,t35,ti35,t40,ti40,t50,ti50,t58,ti58,t60,ti60,t63,ti63,t69,ti69,t71,ti71,t75,ti75,t185,ti185,endCells_part,endCells_length,endCells_at0,Zh,hx] <;> exact rfl) ?_)
          iterate 7 (all_goals first | (refine st_g1 rfl rfl rfl (by simp (disch := omega) only [stepf,callOf,qop,fop,St.ev,St.put,cd,zd,Value.oneCell',tb_T,TypeDesc.aggB,getD_0,getD_s,Ze,Zd,Zc,Za,Zb,Zr,ZE,ZF,Zf,Zq,Zg,i64_w,Zt,Zs,Bool.not_true,Bool.not_false,qFieldAddr,fieldOf,Zl,Zo,Zv,Zw,Zj,Zk,Zx,Zy,qLoad,bload,pload,pureAll,D.pure?,ZC,ZD,qBin,iop,tb_W,tbO_W,qBuild,qBuildD,D.cell1,range_1,range_2,range_3,range_4,range_5,List.all_cons,List.all_nil,bfill,TI.place,TI.zeros,TI.kindOk,D.cells?,zp,Value.cells,ZQ,ZP,pvAll,D.pv?,t1,ti1,t3,ti3,t4,ti4,t5,ti5,t22,ti22,t24,ti24,t26,ti26,t35,ti35,t40,ti40,t50,ti50,t58,ti58,t60,ti60,t63,ti63,t69,ti69,t71,ti71,t75,ti75,t185,ti185,endCells_part,endCells_length,endCells_at0,Zh,hx] <;> exact rfl) ?_) | (first | (refine st_g0 rfl rfl rfl (by simp only [St.put,Za,Zb] <;> exact rfl) ?_) | (refine st_gu rfl rfl rfl (by simp only [St.put,Za,Zb] <;> exact rfl) ?_)) | (refine st_split rfl rfl rfl (by simp only [Za,Zb] <;> exact rfl) (by simp only [Za,Zb] <;> exact rfl) (fun hg => ?_) (fun hg => ?_) <;> (try simp only [Zp,Zi,ZJ,ZK,ne_eq,Zn,Zm,Bool.not_eq_true,Zu] at hg) <;> first | (refine st_g1 rfl rfl rfl (by simp (disch := omega) only [stepf,callOf,qop,fop,St.ev,St.put,cd,zd,Value.oneCell',tb_T,TypeDesc.aggB,getD_0,getD_s,Ze,Zd,Zc,Za,Zb,Zr,ZE,ZF,Zf,Zq,Zg,i64_w,Zt,Zs,Bool.not_true,Bool.not_false,qFieldAddr,fieldOf,Zl,Zo,Zv,Zw,Zj,Zk,Zx,Zy,qLoad,bload,pload,pureAll,D.pure?,ZC,ZD,qBin,iop,tb_W,tbO_W,qBuild,qBuildD,D.cell1,range_1,range_2,range_3,range_4,range_5,List.all_cons,List.all_nil,bfill,TI.place,TI.zeros,TI.kindOk,D.cells?,zp,Value.cells,ZQ,ZP,pvAll,D.pv?,t1,ti1,t3,ti3,t4,ti4,t5,ti5,t22,ti22,t24,ti24,t26,ti26,t35,ti35,t40,ti40,t50,ti50,t58,ti58,t60,ti60,t63,ti63,t69,ti69,t71,ti71,t75,ti75,t185,ti185,endCells_part,endCells_length,endCells_at0,Zh,hx] <;> exact rfl) ?_) | (first | (refine st_g0 rfl rfl rfl (by simp only [St.put,Za,Zb] <;> exact rfl) ?_) | (refine st_gu rfl rfl rfl (by simp only [St.put,Za,Zb] <;> exact rfl) ?_))))
          all_goals first | (first | (refine st_g0 rfl rfl rfl (by simp only [St.put,Za,Zb] <;> exact rfl) ?_) | (refine st_gu rfl rfl rfl (by simp only [St.put,Za,Zb] <;> exact rfl) ?_)) | (refine st_gy rfl rfl rfl rfl (by simp only [St.ev,getD_0,getD_s,zd,cd,Value.oneCell',Zr] <;> exact rfl) (by simp only [pvAll,capCells,D.pvC?,D.pvN?,D.pvL?,pureAll,D.pv?,D.pure?,St.ev,getD_0,getD_s,zd,cd,Value.oneCell',Zr,ZG,ZH,Zd,Zc,Zg] <;> exact rfl) rfl ((item_of (swi_yield hI hil hx hsp hc1 hnow).1)) (by simp only [St.put,Za,Zb] <;> exact rfl) ?_) | (refine st_split rfl rfl rfl (by simp only [Za,Zb] <;> exact rfl) (by simp only [Za,Zb] <;> exact rfl) (fun hg => ?_) (fun hg => ?_) <;> (try simp only [Zp,Zi,ZJ,ZK,ne_eq,Zn,Zm,Bool.not_eq_true,Zu] at hg) <;> first | (first | (refine st_g0 rfl rfl rfl (by simp only [St.put,Za,Zb] <;> exact rfl) ?_) | (refine st_gu rfl rfl rfl (by simp only [St.put,Za,Zb] <;> exact rfl) ?_)) | (refine st_gy rfl rfl rfl rfl (by simp only [St.ev,getD_0,getD_s,zd,cd,Value.oneCell',Zr] <;> exact rfl) (by simp only [pvAll,capCells,D.pvC?,D.pvN?,D.pvL?,pureAll,D.pv?,D.pure?,St.ev,getD_0,getD_s,zd,cd,Value.oneCell',Zr,ZG,ZH,Zd,Zc,Zg] <;> exact rfl) rfl ((item_of (swi_yield hI hil hx hsp hc1 hnow).1)) (by simp only [St.put,Za,Zb] <;> exact rfl) ?_))
          (all_goals first | (refine st_g1 rfl rfl rfl (by simp (disch := omega) only [stepf,callOf,qop,fop,St.ev,St.put,cd,zd,Value.oneCell',tb_T,TypeDesc.aggB,getD_0,getD_s,Ze,Zd,Zc,Za,Zb,Zr,ZE,ZF,Zf,Zq,Zg,i64_w,Zt,Zs,Bool.not_true,Bool.not_false,qFieldAddr,fieldOf,Zl,Zo,Zv,Zw,Zj,Zk,Zx,Zy,qLoad,bload,pload,pureAll,D.pure?,ZC,ZD,qBin,iop,tb_W,tbO_W,qBuild,qBuildD,D.cell1,range_1,range_2,range_3,range_4,range_5,List.all_cons,List.all_nil,bfill,TI.place,TI.zeros,TI.kindOk,D.cells?,zp,Value.cells,ZQ,ZP,pvAll,D.pv?,t1,ti1,t3,ti3,t4,ti4,t5,ti5,t22,ti22,t24,ti24,t26,ti26,t35,ti35,t40,ti40,t50,ti50,t58,ti58,t60,ti60,t63,ti63,t69,ti69,t71,ti71,t75,ti75,t185,ti185,endCells_part,endCells_length,endCells_at0,Zh,hx] <;> exact rfl) ?_) | (first | (refine st_g0 rfl rfl rfl (by simp only [St.put,Za,Zb] <;> exact rfl) ?_) | (refine st_gu rfl rfl rfl (by simp only [St.put,Za,Zb] <;> exact rfl) ?_)) | (refine st_split rfl rfl rfl (by simp only [Za,Zb] <;> exact rfl) (by simp only [Za,Zb] <;> exact rfl) (fun hg => ?_) (fun hg => ?_) <;> (try simp only [Zp,Zi,ZJ,ZK,ne_eq,Zn,Zm,Bool.not_eq_true,Zu] at hg) <;> first | (refine st_g1 rfl rfl rfl (by simp (disch := omega) only [stepf,callOf,qop,fop,St.ev,St.put,cd,zd,Value.oneCell',tb_T,TypeDesc.aggB,getD_0,getD_s,Ze,Zd,Zc,Za,Zb,Zr,ZE,ZF,Zf,Zq,Zg,i64_w,Zt,Zs,Bool.not_true,Bool.not_false,qFieldAddr,fieldOf,Zl,Zo,Zv,Zw,Zj,Zk,Zx,Zy,qLoad,bload,pload,pureAll,D.pure?,ZC,ZD,qBin,iop,tb_W,tbO_W,qBuild,qBuildD,D.cell1,range_1,range_2,range_3,range_4,range_5,List.all_cons,List.all_nil,bfill,TI.place,TI.zeros,TI.kindOk,D.cells?,zp,Value.cells,ZQ,ZP,pvAll,D.pv?,t1,ti1,t3,ti3,t4,ti4,t5,ti5,t22,ti22,t24,ti24,t26,ti26,t35,ti35,t40,ti40,t50,ti50,t58,ti58,t60,ti60,t63,ti63,t69,ti69,t71,ti71,t75,ti75,t185,ti185,endCells_part,endCells_length,endCells_at0,Zh,hx] <;> exact rfl) ?_) | (first | (refine st_g0 rfl rfl rfl (by simp only [St.put,Za,Zb] <;> exact rfl) ?_) | (refine st_gu rfl rfl rfl (by simp only [St.put,Za,Zb] <;> exact rfl) ?_))))
          (refine st_op rfl (by simp (disch := omega) only [stepf,callOf,qop,fop,St.ev,St.put,cd,zd,Value.oneCell',tb_T,TypeDesc.aggB,getD_0,getD_s,Ze,Zd,Zc,Za,Zb,Zr,ZE,ZF,Zf,Zq,Zg,i64_w,Zt,Zs,Bool.not_true,Bool.not_false,qFieldAddr,fieldOf,Zl,Zo,Zv,Zw,Zj,Zk,Zx,Zy,qLoad,bload,pload,pureAll,D.pure?,ZC,ZD,qBin,iop,tb_W,tbO_W,qBuild,qBuildD,D.cell1,range_1,range_2,range_3,range_4,range_5,List.all_cons,List.all_nil,bfill,TI.place,TI.zeros,TI.kindOk,D.cells?,zp,Value.cells,ZQ,ZP,pvAll,D.pv?,t1,ti1,t3,ti3,t4,ti4,t5,ti5,t22,ti22,t24,ti24,t26,ti26,t35,ti35,t40,ti40,t50,ti50,t58,ti58,t60,ti60,t63,ti63,t69,ti69,t71,ti71,t75,ti75,t185,ti185,endCells_part,endCells_length,endCells_at0,Zh,hx] <;> exact rfl) ?_)
          refine aops_nil ?_
          exact hK
        refine exq_n ?_
        refine aw_cond false rfl (fun h => by cases h) (fun _ => ?_)
        refine aw_skip ?_
        refine exq_n ?_
        refine aw_regK hX hb [0, 1] rfl (σ' := ?s26) (fun K hK => ?h26) ?n26
        case h26 =>
          iterate 2 (refine st_op rfl (by simp (disch := omega) only [stepf,callOf,qop,fop,St.ev,St.put,cd,zd,Value.oneCell',tb_T,TypeDesc.aggB,getD_0,getD_s,Ze,Zd,Zc,Za,Zb,Zr,ZE,ZF,Zf,Zq,Zg,i64_w,Zt,Zs,endCells_part,endCells_length,endCells_at0,Zh] <;> exact rfl) ?_)
          refine aops_nil ?_
          exact hK
        refine exb_n ?_
        refine exq_n ?_
        refine aw_regK hX hb [0, 1] rfl (σ' := ?s27) (fun K hK => ?h27) ?n27
        case h27 =>
          iterate 2 (refine st_op rfl (by simp (disch := omega) only [stepf,callOf,qop,fop,St.ev,St.put,cd,zd,Value.oneCell',tb_T,TypeDesc.aggB,getD_0,getD_s,Ze,Zd,Zc,Za,Zb,Zr,ZE,ZF,Zf,Zq,Zg,i64_w,Zt,Zs,qBin,iop,t1,ti1,t3,ti3,endCells_part,endCells_length,endCells_at0,Zh] <;> exact rfl) ?_)
          refine aops_nil ?_
          exact hK
        refine exq_n ?_
        exact ⟨(i + 1, d + sp, st, true, k), by exact swi_in hI hil hx hsp ⟨ha1, ha2⟩ hc1 hnow, by (try dsimp only); omega, wk_le ⟨rfl, leL_r rfl (leL_a (leL_a (leL_r rfl (leL_a (leL_r rfl (leL_r rfl (leL_r rfl (leL_r rfl (leL_a (leL_a (leL_a (leL_a (leL_a (leL_a (leL_a (leL_r rfl (leL_r rfl (leL_r rfl (leL_a (leL_a (leL_a (leL_a (leL_a (leL_a (leL_a (leL_a (leL_a (leL_a (leL_a (leL_a (leL_a (leL_a (leL_a (leL_a (leL_a (leL_a (leL_a (leL_a (leL_a (leL_a (leL_a (leL_a (leL_a (leL_a (leL_a (leL_a (leL_a (leL_a (leL_a (leL_a (leL_a (leL_a (leL_a (leL_a (leL_a (leL_a (leL_a (leL_a (leL_a (leL_a (leL_a (leL_a (leL_a (leL_a (leL_a (leL_a (leL_a (leL_a (leL_a (leL_a (leL_a (leL_a (leL_a (leL_a (leL_a (leL_a (leL_a (leL_a (leL_a (leL_nil)))))))))))))))))))))))))))))))))))))))))))))))))))))))))))))))))))))))))))))))), (leB_r rfl (leL_r rfl (leL_r rfl (leL_nil))) (leB_nil _)), (leV_nil _), rfl, rfl⟩⟩
  · try simp only [Zp,Zi,ZK,ZJ,ne_eq,Zn,Zm,ZB,ZA,ZI,not_or,not_and,Zu] at hc0
    refine aw_exit ?_
    refine exq_e ?_
    refine exq_e ?_
    refine exb_h ?_
    exact rets_n rfl (by first | rfl | ((obtain rfl : i = L.length := by omega); exact swi_end hI))
end Go.Proofs.Ytldcoekbgfaomaa
end
section
namespace Go.Proofs.Ytldcoekbgfaomaa
@[reducible] def natP (X : List Nat) : P1 := .sl X.length (X.map fun n : Nat => i64 (n : Int))
def foundN (a b : List (List Int)) : Nat → Nat → List Nat
  | 0, i => if nodeSame a b 0 i then [] else [i]
  | k + 1, i => if nodeSame a b (k + 1) i then [] else foundN a b k (2 * i) ++ foundN a b k (2 * i + 1)
theorem foundN_L (a b : List (List Int)) : ∀ (k i : Nat), foundL a b k i = (foundN a b k i).map fun n : Nat => (n : Int)
  | 0, i => by unfold foundL foundN; split <;> rfl
  | k + 1, i => by
    unfold foundL foundN
    split
    · rfl
    · rw [List.map_append, foundN_L a b k, foundN_L a b k]
/-- The nodes below some nodes. -/
def kid (a : List (List Int)) (k i : Nat) : List Nat := if 2 * i + 1 < (a.getD k []).length then [2 * i, 2 * i + 1] else [2 * i]
def kids (a : List (List Int)) (k : Nat) (X : List Nat) : List Nat := X.flatMap (kid a k)
def differs (a b : List (List Int)) (k i : Nat) : Bool := decide (¬ (a.getD k []).getD i 0 = (b.getD k []).getD i 0)
def visL (a : List (List Int)) (top n : Nat) (X : List Nat) : List Nat := if n ≤ top then kids a (n - 1) X else [0]
structure BfS (a b : List (List Int)) (top n : Nat) (X : List Nat) : Prop where
  inr : ∀ i ∈ X, i < (a.getD n []).length
  few : X.length * 2 ^ n ≤ 2 ^ top
  all : (n = 0 → X = foundN a b top 0) ∧ (1 ≤ n → (kids a (n - 1) X).flatMap (foundN a b (n - 1)) = foundN a b top 0)
structure BfI (a b : List (List Int)) (top n : Nat) (X : List Nat) : Prop where
  le : n ≤ top + 1
  nil : n = top + 1 → X = []
  st : n ≤ top → BfS a b top n X
/-- Rows halve. -/
def Halves (a : List (List Int)) : Prop := ∀ k, k + 1 < a.length → (a.getD (k + 1) []).length = ((a.getD k []).length + 1) / 2
theorem halves_of : ∀ (n : Nat) (row : List Int), row.length ≤ n → Halves (levelsOf row)
  | n, row, h => by
    intro k hk
    by_cases h1 : row.length ≤ 1
    · rw [levelsOf_one h1] at hk
      simp at hk
    · rw [levelsOf_more h1] at hk ⊢
      have hu := upL_length row
      cases k with
      | zero =>
        obtain ⟨r, hr⟩ := levelsOf_head (upL row)
        rw [hr]
        exact hu
      | succ k =>
        match n, h with
        | 0, h => omega
        | n + 1, h =>
          have := halves_of n (upL row) (by omega) k (by simpa using hk)
          simpa using this
theorem kids_take (a : List (List Int)) (k : Nat) (X : List Nat) (j : Nat) (h : j < X.length) : kids a k (X.take (j + 1)) = kids a k (X.take j) ++ kid a k (X.getD j 0) := by
  rw [kids, kids, List.take_succ_eq_append_getElem h, List.flatMap_append]
  simp [h]
theorem filter_take (p : Nat → Bool) (X : List Nat) (j : Nat) (h : j < X.length) : (X.take (j + 1)).filter p = (X.take j).filter p ++ if p (X.getD j 0) then [X.getD j 0] else [] := by
  rw [List.take_add_one]
  simp only [List.getElem?_eq_getElem h,Option.toList_some,List.filter_append,List.getD_eq_getElem?_getD,Option.getD_some]
  by_cases hp : p X[j] = true
  · simp [hp]
  · simp [hp]
theorem kids_length (a : List (List Int)) (k : Nat) : ∀ (X : List Nat), (kids a k X).length ≤ 2 * X.length
  | [] => by simp [kids]
  | x :: X => by
    have := kids_length a k X
    have hk : (kid a k x).length ≤ 2 := by unfold kid; split <;> simp
    simp only [kids,List.flatMap_cons,List.length_append,Zl] at this ⊢
    omega
theorem vis_ok {a b : List (List Int)} {n : Nat} {X : List Nat} (hh : Halves a) (h0 : 1 ≤ (a.getD (a.length - 1) []).length) (hl : 1 ≤ a.length) (hn : 1 ≤ n) (h : BfI a b (a.length - 1) n X) :
    (∀ i ∈ visL a (a.length - 1) n X, i < (a.getD (n - 1) []).length) ∧ (visL a (a.length - 1) n X).length * 2 ^ (n - 1) ≤ 2 ^ (a.length - 1) ∧ (visL a (a.length - 1) n X).flatMap (foundN a b (n - 1)) = foundN a b (a.length - 1) 0 := by
  unfold visL
  by_cases h1 : n ≤ a.length - 1
  · rw [if_pos h1]
    obtain ⟨q1, q2, q3⟩ := h.st h1
    refine ⟨fun i hi => ?_, ?_, q3.2 hn⟩
    · obtain ⟨j, hj, hij⟩ := List.mem_flatMap.1 hi
      have hj1 := q1 j hj
      have hhn := hh (n - 1) (by omega)
      rw [show n - 1 + 1 = n by omega] at hhn
      unfold kid at hij
      split at hij
      · simp only [List.mem_cons,List.not_mem_nil,or_false] at hij
        omega
      · simp only [List.mem_singleton] at hij
        omega
    · have hkl := kids_length a (n - 1) X
      have e : 2 ^ n = 2 * 2 ^ (n - 1) := by rw [← Nat.pow_succ']; congr 1; omega
      rw [e] at q2
      calc (kids a (n - 1) X).length * 2 ^ (n - 1) ≤ (2 * X.length) * 2 ^ (n - 1) := Nat.mul_le_mul_right _ hkl
        _ = X.length * (2 * 2 ^ (n - 1)) := by rw [Nat.mul_comm 2 X.length, Nat.mul_assoc]
        _ ≤ 2 ^ (a.length - 1) := q2
  · rw [if_neg h1]
    have hle := h.le
    have e : n - 1 = a.length - 1 := by omega
    rw [e]
    refine ⟨fun i hi => ?_, by simp, by simp⟩
    simp only [List.mem_singleton] at hi
    omega
theorem foundN_far {a b : List (List Int)} {k i : Nat} (h : (a.getD k []).length ≤ i) : foundN a b k i = [] := by
  cases k <;> exact if_pos (.inl h)
theorem flat_found {a b : List (List Int)} (k : Nat) : ∀ (V : List Nat), (∀ i ∈ V, i < (a.getD k []).length) →
    (k = 0 → V.flatMap (foundN a b k) = V.filter (differs a b k)) ∧ (1 ≤ k → V.flatMap (foundN a b k) = (kids a (k - 1) (V.filter (differs a b k))).flatMap (foundN a b (k - 1)))
  | [], _ => ⟨fun _ => rfl, fun _ => rfl⟩
  | v :: V, hV => by
    obtain ⟨i1, i2⟩ := flat_found k V (fun i hi => hV i (by simp [hi]))
    have hv := hV v (by simp)
    have hsame : nodeSame a b k v ↔ differs a b k v = false := by
      unfold nodeSame differs
      simp only [Zi,Zu]
      constructor
      · rintro (h | h)
        · omega
        · exact h
      · exact .inr
    refine ⟨fun hk => ?_, fun hk => ?_⟩
    · subst hk
      rw [List.flatMap_cons, i1 rfl]
      cases hd : differs a b 0 v with
      | true =>
        rw [show foundN a b 0 v = [v] from if_neg (fun h => by rw [hsame.1 h] at hd; cases hd)]
        simp [List.filter_cons, hd]
      | false =>
        rw [show foundN a b 0 v = [] from if_pos (hsame.2 hd)]
        simp [List.filter_cons, hd]
    · obtain ⟨k', rfl⟩ : ∃ k', k = k' + 1 := ⟨k - 1, by omega⟩
      rw [List.flatMap_cons, i2 hk]
      cases hd : differs a b (k' + 1) v with
      | true =>
        rw [show foundN a b (k' + 1) v = foundN a b k' (2 * v) ++ foundN a b k' (2 * v + 1) from if_neg (fun h => by rw [hsame.1 h] at hd; cases hd)]
        simp only [List.filter_cons,hd,Zr,kids,List.flatMap_cons,List.flatMap_append,Nat.add_sub_cancel]
        congr 1
        unfold kid
        split
        · simp
        · rename_i hx
          rw [foundN_far (b := b) (show (a.getD k' []).length ≤ 2 * v + 1 by omega)]
          simp
      | false =>
        rw [show foundN a b (k' + 1) v = [] from if_pos (hsame.2 hd)]
        simp [List.filter_cons, hd]
theorem bf_start (a b : List (List Int)) (top : Nat) : BfI a b top (top + 1) [] := ⟨Nat.le_refl _, fun _ => rfl, fun h => by omega⟩
theorem bf_next {a b : List (List Int)} {n : Nat} {X : List Nat} (hh : Halves a) (h0 : 1 ≤ (a.getD (a.length - 1) []).length) (hl : 1 ≤ a.length) (hn : 1 ≤ n) (h : BfI a b (a.length - 1) n X) :
    BfI a b (a.length - 1) (n - 1) ((visL a (a.length - 1) n X).filter (differs a b (n - 1))) := by
  obtain ⟨v1, v2, v3⟩ := vis_ok hh h0 hl hn h
  generalize visL a (a.length - 1) n X = V at *
  have hle := h.le
  obtain ⟨f1, f2⟩ := flat_found (b := b) (n - 1) V v1
  refine ⟨by omega, fun h => by omega, fun _ => ⟨fun i hi => v1 i (List.mem_filter.1 hi).1, ?_, fun h0 => ?_, fun h1 => ?_⟩⟩
  · exact Nat.le_trans (Nat.mul_le_mul_right _ (List.length_filter_le _ _)) v2
  · rw [← f1 h0, v3]
  · rw [← f2 h1, v3]
/-- The cells of the lists found so far: those below level n are empty, that of level n is X. -/
def fcells (top n : Nat) (X : List Nat) : List D := (List.range 16).map fun j => if j < n then .nil else if j = n ∧ n ≤ top then .p (natP X) else .any
theorem fcells_length (top n : Nat) (X : List Nat) : (fcells top n X).length = 16 := by simp [fcells]
theorem fcells_at (top n : Nat) (X : List Nat) (h : n ≤ top) (h2 : n < 16) : (fcells top n X)[n]? = some (.p (natP X)) := by
  simp [fcells, h2, h]
theorem fcells_nil (top n : Nat) (X : List Nat) (j : Nat) (h : j < n) (h2 : j < 16) : (fcells top n X)[j]? = some .nil := by
  simp [fcells, h2, h]
end Go.Proofs.Ytldcoekbgfaomaa
end
section
namespace Go.Proofs.Ytldcoekbgfaomaa
def SortedL (L : List EndT) : Prop := L.Pairwise fun x y => x.1 ≤ y.1
theorem sorted_sortE (es : List EndT) : SortedL (sortE es) := by
  rw [SortedL, List.pairwise_iff_getElem]
  intro i j hi hj hij
  exact sortE_sorted es i j _ _ hij (List.getElem?_eq_getElem hi) (List.getElem?_eq_getElem hj)
/-- The least comes first. -/
theorem head_least {L M : List EndT} {x : EndT} (hs : SortedL L) (hp : L.Perm (x :: M)) (hx : ∀ y ∈ M, x.1 < y.1) : ∃ L', L = x :: L' ∧ SortedL L' ∧ L'.Perm M := by
  cases L with
  | nil => exact absurd hp.length_eq (by simp)
  | cons h t =>
    have hh : h = x ∨ h ∈ M := List.mem_cons.1 (hp.mem_iff.1 (by simp))
    have hst := List.pairwise_cons.1 hs
    rcases hh with rfl | hh
    · exact ⟨t, rfl, hst.2, hp.cons_inv⟩
    · have hxm : x ∈ h :: t := hp.mem_iff.2 (by simp)
      rcases List.mem_cons.1 hxm with e | e
      · subst e
        have := hx _ hh
        omega
      · have h1 := hst.1 x e
        have h2 := hx h hh
        omega
/-- Two at one place come first, in either order. -/
theorem head_two {L M : List EndT} {x y : EndT} (hs : SortedL L) (hp : L.Perm (x :: y :: M)) (he : x.1 = y.1) (hx : ∀ z ∈ M, x.1 < z.1) : ∃ L', (L = x :: y :: L' ∨ L = y :: x :: L') ∧ SortedL L' ∧ L'.Perm M := by
  cases L with
  | nil => exact absurd hp.length_eq (by simp)
  | cons h t =>
    have hst := List.pairwise_cons.1 hs
    have hh : h = x ∨ h = y ∨ h ∈ M := by
      rcases List.mem_cons.1 (hp.mem_iff.1 (show h ∈ h :: t by simp)) with e | e
      · exact .inl e
      · exact .inr (List.mem_cons.1 e)
    rcases hh with rfl | rfl | hh
    · obtain ⟨L', rfl, h1, h2⟩ := head_least hst.2 hp.cons_inv (fun z hz => by rw [← he]; exact hx z hz)
      exact ⟨L', .inl rfl, h1, h2⟩
    · have hp' := hp.trans (List.Perm.swap _ _ _)
      obtain ⟨L', rfl, h1, h2⟩ := head_least hst.2 hp'.cons_inv hx
      exact ⟨L', .inr rfl, h1, h2⟩
    · have hxm : x ∈ h :: t := hp.mem_iff.2 (by simp)
      have h2 := hx h hh
      rcases List.mem_cons.1 hxm with e | e
      · subst e
        omega
      · have h1 := hst.1 x e
        omega
/-- Extents in ascending order, from b on. -/
def AscE (b : Int) : List (Int × Int) → Prop
  | [] => True
  | e :: r => b ≤ e.1 ∧ 0 < e.2 ∧ AscE (e.1 + e.2) r
theorem AscE.ge : ∀ {l : List (Int × Int)} {b : Int}, AscE b l → ∀ x ∈ endsOf 0 l, b ≤ x.1
  | [], b, _, x, hx => by simp [endsOf] at hx
  | e :: r, b, ⟨h1, h2, h3⟩, x, hx => by
    simp only [endsOf,List.flatMap_cons,List.mem_append,List.mem_cons,List.not_mem_nil,or_false] at hx
    rcases hx with (rfl | rfl) | hx
    · exact h1
    · show b ≤ e.1 + e.2
      omega
    · have := AscE.ge h3 x hx
      omega
def mergeFrom (st b : Int) : List (Int × Int) → List (Int × Int)
  | [] => [(st, b - st)]
  | e :: r => if b = e.1 then mergeFrom st (e.1 + e.2) r else (st, b - st) :: mergeFrom e.1 (e.1 + e.2) r
def mergeAll : List (Int × Int) → List (Int × Int)
  | [] => []
  | e :: r => mergeFrom e.1 (e.1 + e.2) r
theorem sameNext_gt {x : EndT} {L : List EndT} (h : ∀ y ∈ L, x.1 < y.1) : sameNext x L = false := by
  cases L with
  | nil => rfl
  | cons y r =>
    have := h y (by simp)
    simp only [sameNext,Zi]
    omega
theorem sweep_from : ∀ (l : List (Int × Int)) (st b : Int) (L : List EndT), AscE b l → SortedL L → L.Perm ((b, 0, -1) :: endsOf 0 l) → sweepL L 1 st true = mergeFrom st b l
  | [], st, b, L, _, hs, hp => by
    have : L = [(b, 0, -1)] := List.perm_singleton.1 hp
    subst this
    simp [sweepL, sameNext, mergeFrom]
  | e :: r, st, b, L, ⟨h1, h2, h3⟩, hs, hp => by
    have hge := AscE.ge h3
    have hM : endsOf 0 (e :: r) = (e.1, 0, 1) :: (e.1 + e.2, 0, -1) :: endsOf 0 r := by simp [endsOf]
    rw [hM] at hp
    have hgt : ∀ z ∈ (e.1 + e.2, (0 : Int), (-1 : Int)) :: endsOf 0 r, e.1 < z.1 := by
      intro z hz
      rcases List.mem_cons.1 hz with rfl | hz
      · show e.1 < e.1 + e.2
        omega
      · have := hge z hz
        omega
    by_cases hb : b = e.1
    · subst hb
      obtain ⟨L', hL, hs', hp'⟩ := head_two hs hp rfl hgt
      have hgt' : ∀ z ∈ L', e.1 < z.1 := fun z hz => hgt z (hp'.mem_iff.1 hz)
      have ih := sweep_from r st (e.1 + e.2) L' h3 hs' hp'
      rw [mergeFrom, if_pos rfl, ← ih]
      have hsn : ∀ s : Int, sameNext (e.1, 0, s) L' = false := fun s => sameNext_gt hgt'
      rcases hL with rfl | rfl
      · simp [sweepL, sameNext, hsn]
      · simp [sweepL, sameNext, hsn]
    · have hlt : b < e.1 := by omega
      obtain ⟨L1, rfl, hs1, hp1⟩ := head_least hs hp (fun z hz => by
        rcases List.mem_cons.1 hz with rfl | hz
        · exact hlt
        · have := hgt z hz
          show b < z.1
          omega)
      obtain ⟨L2, rfl, hs2, hp2⟩ := head_least hs1 hp1 hgt
      have hgt' : ∀ z ∈ L2, e.1 < z.1 := fun z hz => hgt z (hp2.mem_iff.1 hz)
      have ih := sweep_from r e.1 (e.1 + e.2) L2 h3 hs2 hp2
      rw [mergeFrom, if_neg hb, ← ih]
      have hsn : ∀ s : Int, sameNext (e.1, 0, s) L2 = false := fun s => sameNext_gt hgt'
      have hne : ¬ e.1 = b := fun h => hb h.symm
      have hs0 : sameNext (b, 0, -1) ((e.1, 0, 1) :: L2) = false := by simp [sameNext, hne]
      simp [sweepL, hsn, hs0]
theorem sweep_all {l : List (Int × Int)} {b : Int} (h : AscE b l) : sweepL (sortE (rawAll [l, []])) 0 0 false = mergeAll l := by
  have e0 : rawAll [l, []] = endsOf 0 l := by simp [rawAll, endsOf]
  rw [e0]
  have hp := sortE_perm (endsOf 0 l)
  have hs := sorted_sortE (endsOf 0 l)
  generalize sortE (endsOf 0 l) = L at *
  cases l with
  | nil =>
    have : L = [] := List.perm_nil.1 hp
    subst this
    rfl
  | cons e r =>
    obtain ⟨h1, h2, h3⟩ := h
    have hge := AscE.ge h3
    have hM : endsOf 0 (e :: r) = (e.1, 0, 1) :: (e.1 + e.2, 0, -1) :: endsOf 0 r := by simp [endsOf]
    rw [hM] at hp
    have hgt : ∀ z ∈ (e.1 + e.2, (0 : Int), (-1 : Int)) :: endsOf 0 r, e.1 < z.1 := by
      intro z hz
      rcases List.mem_cons.1 hz with rfl | hz
      · show e.1 < e.1 + e.2
        omega
      · have := hge z hz
        omega
    obtain ⟨L1, rfl, hs1, hp1⟩ := head_least hs hp hgt
    have hgt' : ∀ z ∈ L1, e.1 < z.1 := fun z hz => hgt z (hp1.mem_iff.1 hz)
    have hsn : ∀ s : Int, sameNext (e.1, 0, s) L1 = false := fun s => sameNext_gt hgt'
    rw [mergeAll, ← sweep_from r e.1 (e.1 + e.2) L1 h3 hs1 hp1]
    simp [sweepL, hsn]
/-- The extents of some leaves. -/
def extRaw (S F : Nat) (X : List Nat) : List (Int × Int) := X.map fun x => (((x * F : Nat) : Int), min (F : Int) ((S : Int) - ((x * F : Nat) : Int)))
theorem fold_merge (S F : Nat) : ∀ (X : List Nat) (out : List (Int × Int)) (st b : Int), (X.map fun n : Nat => (n : Int)).foldl (extStep S F) (out ++ [(st, b - st)]) = out ++ mergeFrom st b (extRaw S F X)
  | [], out, st, b => by simp [extRaw, mergeFrom]
  | x :: X, out, st, b => by
    simp only [ZG,List.foldl_cons]
    have e1 : ((x : Int) * (F : Int)) = ((x * F : Nat) : Int) := mul_cast x F
    have hm : min (S : Int) (((x * F : Nat) : Int) + F) - ((x * F : Nat) : Int) = min (F : Int) ((S : Int) - ((x * F : Nat) : Int)) := by omega
    have hlast : (out ++ [(st, b - st)]).getD ((out ++ [(st, b - st)]).length - 1) (0, 0) = (st, b - st) := by simp
    have hstep : extStep S F (out ++ [(st, b - st)]) x = if b = ((x * F : Nat) : Int) then out ++ [(st, ((x * F : Nat) : Int) + min (F : Int) ((S : Int) - ((x * F : Nat) : Int)) - st)] else out ++ [(st, b - st)] ++ [(((x * F : Nat) : Int), min (F : Int) ((S : Int) - ((x * F : Nat) : Int)))] := by
      unfold extStep
      simp only [hlast,e1,hm]
      by_cases hb : b = ((x * F : Nat) : Int)
      · rw [if_pos ⟨by simp, by omega⟩, if_pos hb]
        simp only [List.length_append,Zl,Zo,ZC,Nat.add_sub_cancel,List.take_left']
        congr 3
        omega
      · rw [if_neg (by rintro ⟨_, h⟩; exact hb (by omega)), if_neg hb]
    rw [hstep]
    show _ = out ++ mergeFrom st b ((((x * F : Nat) : Int), min (F : Int) ((S : Int) - ((x * F : Nat) : Int))) :: extRaw S F X)
    rw [mergeFrom]
    by_cases hb : b = ((x * F : Nat) : Int)
    · rw [if_pos hb, if_pos hb]
      exact fold_merge S F X out st _
    · rw [if_neg hb, if_neg hb]
      have := fold_merge S F X (out ++ [(st, b - st)]) ((x * F : Nat) : Int) (((x * F : Nat) : Int) + min (F : Int) ((S : Int) - ((x * F : Nat) : Int)))
      rw [show ((x * F : Nat) : Int) + min (F : Int) ((S : Int) - ((x * F : Nat) : Int)) - ((x * F : Nat) : Int) = min (F : Int) ((S : Int) - ((x * F : Nat) : Int)) by omega] at this
      rw [this]
      simp
theorem refExt_merge (S F : Nat) (X : List Nat) : refExt S F (X.map fun n : Nat => (n : Int)) = mergeAll (extRaw S F X) := by
  cases X with
  | nil => rfl
  | cons x X =>
    have e1 : ((x : Int) * (F : Int)) = ((x * F : Nat) : Int) := mul_cast x F
    have hm : min (S : Int) (((x * F : Nat) : Int) + F) - ((x * F : Nat) : Int) = min (F : Int) ((S : Int) - ((x * F : Nat) : Int)) := by omega
    have hstep : extStep S F [] x = [] ++ [(((x * F : Nat) : Int), ((x * F : Nat) : Int) + min (F : Int) ((S : Int) - ((x * F : Nat) : Int)) - ((x * F : Nat) : Int))] := by
      unfold extStep
      simp only [e1,hm,Zo,Nat.lt_irrefl,false_and,Zq,ZM]
      congr 2
      omega
    unfold refExt
    rw [List.map_cons, List.foldl_cons, hstep, fold_merge]
    rfl
theorem ascE_raw {S F : Nat} (hF : 1 ≤ F) : ∀ (X : List Nat) (b : Int), X.Pairwise (· < ·) → (∀ x ∈ X, x * F < S) → (∀ x ∈ X, b ≤ ((x * F : Nat) : Int)) → AscE b (extRaw S F X)
  | [], b, _, _, _ => trivial
  | x :: X, b, hp, hS, hb => by
    have hx := hS x (by simp)
    have hpc := List.pairwise_cons.1 hp
    refine ⟨hb x (by simp), ?_, ascE_raw hF X _ hpc.2 (fun y hy => hS y (by simp [hy])) fun y hy => ?_⟩
    · show 0 < min (F : Int) ((S : Int) - ((x * F : Nat) : Int))
      omega
    · have h1 : (x + 1) * F ≤ y * F := Nat.mul_le_mul_right _ (hpc.1 y hy)
      rw [Nat.succ_mul] at h1
      show ((x * F : Nat) : Int) + min (F : Int) ((S : Int) - ((x * F : Nat) : Int)) ≤ ((y * F : Nat) : Int)
      omega
theorem goodE_raw {S F : Nat} (hF : 1 ≤ F) (hS : S ≤ 4096) {X : List Nat} (hx : ∀ x ∈ X, x * F < S) : ∀ e ∈ extRaw S F X, GoodE e := by
  intro e he
  obtain ⟨x, hxm, rfl⟩ := List.mem_map.1 he
  have := hx x hxm
  exact ⟨x * F, min F (S - x * F), by ext <;> simp <;> omega, by omega, by omega⟩
/-- Found leaves come in ascending order. -/
theorem foundN_asc (a b : List (List Int)) : ∀ (k i : Nat), (foundN a b k i).Pairwise (· < ·) ∧ ∀ x ∈ foundN a b k i, i * 2 ^ k ≤ x ∧ x < (i + 1) * 2 ^ k
  | 0, i => by
    unfold foundN
    split
    · exact ⟨List.Pairwise.nil, fun x h => by cases h⟩
    · exact ⟨List.pairwise_singleton _ _, fun x h => by simp at h; subst h; simp⟩
  | k + 1, i => by
    unfold foundN
    split
    · exact ⟨List.Pairwise.nil, fun x h => by cases h⟩
    · obtain ⟨p1, q1⟩ := foundN_asc a b k (2 * i)
      obtain ⟨p2, q2⟩ := foundN_asc a b k (2 * i + 1)
      have e1 : i * 2 ^ (k + 1) = 2 * i * 2 ^ k := by rw [Nat.pow_succ, Nat.mul_comm (2 ^ k) 2, ← Nat.mul_assoc, Nat.mul_comm i 2]
      have e2 : (i + 1) * 2 ^ (k + 1) = (2 * i + 1 + 1) * 2 ^ k := by rw [Nat.pow_succ, Nat.mul_comm (2 ^ k) 2, ← Nat.mul_assoc]; congr 1; omega
      have e3 : (2 * i + 1) * 2 ^ k = 2 * i * 2 ^ k + 2 ^ k := Nat.succ_mul _ _
      have e4 : (2 * i + 1 + 1) * 2 ^ k = (2 * i + 1) * 2 ^ k + 2 ^ k := Nat.succ_mul _ _
      refine ⟨List.pairwise_append.2 ⟨p1, p2, fun x hx y hy => ?_⟩, fun x hx => ?_⟩
      · have := (q1 x hx).2
        have := (q2 y hy).1
        omega
      · rw [e1, e2]
        rcases List.mem_append.1 hx with h | h
        · have := q1 x h
          omega
        · have := q2 x h
          omega
/-- **extent.Union of extents in ascending order, with nothing.** -/
theorem c73' (l : List (Int × Int)) (b : Int) (hl : l.length ≤ 8192) (hg : ∀ e ∈ l, GoodE e) (ha : AscE b l) : SeqC Try.prog 119 [exts l, .sl 0 [], .v (.func (.func 110) #[] #[])] (extItems (mergeAll l)) := by
  rw [← sweep_all ha]
  exact s119g l hl hg _ rfl
theorem mergeFrom_length : ∀ (l : List (Int × Int)) (st b : Int), (mergeFrom st b l).length ≤ l.length + 1
  | [], st, b => by simp [mergeFrom]
  | e :: r, st, b => by
    rw [mergeFrom]
    split
    · have := mergeFrom_length r st (e.1 + e.2)
      simp only [Zl]
      omega
    · have := mergeFrom_length r e.1 (e.1 + e.2)
      simp only [Zl]
      omega
theorem mergeAll_length (l : List (Int × Int)) : (mergeAll l).length ≤ l.length := by
  cases l with
  | nil => simp [mergeAll]
  | cons e r =>
    have := mergeFrom_length r e.1 (e.1 + e.2)
    simp only [mergeAll,Zl]
    omega
end Go.Proofs.Ytldcoekbgfaomaa
end
section
namespace Go.Proofs.Ytldcoekbgfaomaa
open Go.RowKit
set_option maxRecDepth 20000
set_option maxHeartbeats 4000000
attribute [local irreducible] AOps AOpsD AW
theorem c73 (l : List (Int × Int)) (b : Int) (hl : l.length ≤ 8192) (hg : ∀ e ∈ l, GoodE e) (ha : AscE b l) : ACalls Try.prog 73 [.p (exts l), .p (.sl 0 [])] (.p (exts (mergeAll l))) := by
  refine acalls_of tb_ok Try.func73 (c := _) rfl (by kernel_rfl) ?_
  intro X hP hX hro hpl
  have hb : tb.Ok X.P := hP ▸ tb_ok
  change AW X _ _ ⟨[], [.p (exts l), .p (.sl 0 []), .any, .any, .any, .any, .any, .any, .any], [], []⟩
  refine aw_seq ?_
  refine aw_regK hX hb [0] rfl (σ' := ?s1) (fun K hK => ?h1) ?n1
  case h1 =>
    (refine st_op rfl (by simp (disch := omega) only [stepf,callOf,qop,fop,St.ev,St.put,cd,zd,Value.oneCell',tb_T,TypeDesc.aggB,getD_0,getD_s,Ze,Zd,Zc,Za,Zb,Zr,ZE,ZF,Zf,Zq,Zg,i64_w,Zt,Zs] <;> exact rfl) ?_)
    refine aops_nil ?_
    exact hK
  refine exq_n ?_
  refine aw_seq ?_
  refine aw_regK hX hb [0, 1, 2, 3, 4] rfl (σ' := ?s2) (fun K hK => ?h2) ?n2
  case h2 =>
    iterate 2 (refine st_op rfl (by simp (disch := omega) only [stepf,callOf,qop,fop,St.ev,St.put,cd,zd,Value.oneCell',tb_T,TypeDesc.aggB,getD_0,getD_s,Ze,Zd,Zc,Za,Zb,Zr,ZE,ZF,Zf,Zq,Zg,i64_w,Zt,Zs,pvAll,D.pv?,t1,ti1,t3,ti3,t5,ti5,t35,ti35,t40,ti40,t168,ti168,t170,ti170] <;> exact rfl) ?_)
    refine st_call rfl (by simp only [callOf,St.ev,getD_0,getD_s,pvAll,D.pv?,ZG,ZH,zd,cd,Value.oneCell',Zr] <;> exact rfl) (acK hP (c109 l [] 110)) (by simp only [St.put,Za,Zb] <;> exact rfl) ?_
    refine st_call rfl (by simp only [callOf,St.ev,getD_0,getD_s,pvAll,D.pv?,ZG,ZH,zd,cd,Value.oneCell',Zr] <;> exact rfl) (acK hP (c108 _ _ (mergeAll l) (c73' l b hl hg ha) (by have := mergeAll_length l; omega))) (by simp only [St.put,Za,Zb] <;> exact rfl) ?_
    (refine st_op rfl (by simp (disch := omega) only [stepf,callOf,qop,fop,St.ev,St.put,cd,zd,Value.oneCell',tb_T,TypeDesc.aggB,getD_0,getD_s,Ze,Zd,Zc,Za,Zb,Zr,ZE,ZF,Zf,Zq,Zg,i64_w,Zt,Zs,pvAll,D.pv?,t1,ti1,t3,ti3,t5,ti5,t35,ti35,t40,ti40,t168,ti168,t170,ti170] <;> exact rfl) ?_)
    refine aops_nil ?_
    exact hK
  refine exq_n ?_
  refine aw_ret ?_
  exact ret_r rfl (resOf_one rfl rfl)
end Go.Proofs.Ytldcoekbgfaomaa
end
section
namespace Go.Proofs.Ytldcoekbgfaomaa
open Go.RowKit
set_option maxRecDepth 20000
set_option maxHeartbeats 4000000
attribute [local irreducible] AOps AOpsD AW
def tsel (a b : Tr) (i : Nat) : Tr := if i = 0 then a else b
def twoC (a b : Tr) : List P1 := trC a ++ trC b
def selC (a b : Tr) (i : Nat) : List P1 := trC (tsel a b i)
theorem selC_len (a b : Tr) (i : Nat) : (selC a b i).length = 3 := rfl
theorem selC_take (a b : Tr) (i : Nat) : (List.map D.p (selC a b i)).take 3 = List.map D.p (selC a b i) := rfl
theorem pureAll_p : ∀ xs : List P1, pureAll (xs.map D.p) = some xs
  | [] => rfl
  | x :: xs => by simp only [ZG,pureAll,D.pure?,pureAll_p xs]
theorem c31s (a b : Tr) (i : Nat) : ACalls Try.prog 31 [.agg (selC a b i)] (.p (i64 (refChk (tsel a b i)))) := c31 (tsel a b i)
theorem two_part (a b : Tr) (i : Nat) (h : i < 2) : ((twoC a b).drop (i * 3)).take 3 = selC a b i := by
  have hi : i = 0 ∨ i = 1 := by omega
  rcases hi with rfl | rfl <;> rfl
theorem two_len (a b : Tr) : (twoC a b).length = 6 := rfl
theorem diff_bad {a b : Tr} {i : Nat} (hi : i < 2) (h1 : 1 ≤ i → refChk a = 0) (h : ¬ refChk (tsel a b i) = 0) : D.tup [.p (.sl 0 []), .p (i64 (refChk (tsel a b i)))] = .tup [.p (exts (refDiff a b).1), .p (i64 (refDiff a b).2)] := by
  have hi : i = 0 ∨ i = 1 := by omega
  rcases hi with rfl | rfl
  · change ¬ refChk a = 0 at h
    rw [refDiff, if_pos h]; rfl
  · rw [refDiff, if_neg (not_not_intro (h1 (Nat.le_refl _)))]
    change ¬ refChk b = 0 at h
    rw [if_pos h]; rfl
theorem map_at_n (f : Nat → P1) (l : List Nat) (i : Nat) (h : i < l.length) : (l.map f)[i]? = some (f (l.getD i 0)) := by
  simp [h]
theorem fcells_at0 (top : Nat) (X : List Nat) : (fcells top 0 X)[0]? = some (.p (natP X)) := fcells_at top 0 X (Nat.zero_le _) (by omega)
theorem set_at (l : List D) (i : Nat) (x : D) (h : i < l.length) : (l.set i x)[i]? = some x := by simp [h]
theorem fcells_dem (top n : Nat) (X : List Nat) (j : Nat) : (fcells top n X).map (D.demote j) = fcells top n X := by
  unfold fcells
  rw [List.map_map]
  apply List.map_congr_left
  intro k _
  simp only [Function.comp]
  split
  · rfl
  · split <;> rfl
theorem fcells_in (top n : Nat) (X : List Nat) (nb nv : Nat) : ((fcells top n X).all fun d => d.inB nb nv) = true := by
  rw [List.all_eq_true]
  intro d hd
  obtain ⟨j, _, rfl⟩ := List.mem_map.1 hd
  split
  · rfl
  · split <;> rfl
theorem fcset_in (top n : Nat) (X : List Nat) (m nb nv : Nat) (h : 0 < nv) : (((fcells top n X).set m (.vref 0)).all fun d => d.inB nb nv) = true := by
  have h1 := fcells_in top n X nb nv
  rw [List.all_eq_true] at h1 ⊢
  intro d hd
  rcases List.mem_or_eq_of_mem_set hd with hd | hd
  · exact h1 d hd
  · subst hd
    exact decide_eq_true h
theorem bc3 {x y z : Bx} {f : D → Bool} (h1 : x.cells.all f = true) (h2 : y.cells.all f = true) (h3 : z.cells.all f = true) : ([x, y, z].all fun x => x.cells.all f) = true := by
  simp [h1, h2, h3]
theorem fcells_frz (top n : Nat) (X : List Nat) (j : Nat) (V : Vc) : (fcells top n X).map (D.freeze j V) = fcells top n X := by
  unfold fcells
  rw [List.map_map]
  apply List.map_congr_left
  intro k _
  simp only [Function.comp]
  split
  · rfl
  · split <;> rfl
theorem fc_again (top n : Nat) (X : List Nat) (m : Nat) (h : m < 16) (d : D) : ((((fcells top n X).set m d).map (D.demote 0)).take m ++ [.vref 0] ++ (((fcells top n X).set m d).map (D.demote 0)).drop (m + 1)) = (fcells top n X).set m (.vref 0) := by
  rw [splice_set _ _ _ (by simp [fcells_length]; exact h), List.map_set, fcells_dem, List.set_set]
theorem fc_next (top m : Nat) (X Y : List Nat) (hm : m ≤ top) (h : m < 16) : leL (((fcells top (m + 1) X).set m (.vref 0)).map (D.freeze 0 ⟨3, 1, Y.length, Y.map fun n : Nat => i64 (n : Int)⟩)) (fcells top m Y) := by
  have key : ∀ (l l' : List D), l.length = l'.length → (∀ (i : Nat) (d d' : D), l[i]? = some d → l'[i]? = some d' → leD d d') → leL l l' := by
    intro l
    induction l with
    | nil =>
      intro l' hl _
      have : l' = [] := List.eq_nil_of_length_eq_zero (by simpa using hl.symm)
      subst this
      trivial
    | cons d l ih =>
      intro l' hl hd
      cases l' with
      | nil => simp at hl
      | cons d' l' => exact ⟨hd 0 d d' rfl rfl, ih l' (by simpa using hl) fun i d d' h1 h2 => hd (i + 1) d d' (by simpa using h1) (by simpa using h2)⟩
  refine key _ _ (by simp [fcells_length]) fun i d d' h1 h2 => ?_
  rw [List.getElem?_map, List.getElem?_set] at h1
  by_cases hi : i < 16
  · rw [fcells_length] at h1
    simp only [fcells,List.getElem?_map,List.getElem?_range hi,Zg,Option.some.injEq] at h1 h2
    by_cases hmi : m = i
    · subst hmi
      rw [if_pos rfl, if_pos h] at h1
      rw [if_neg (by omega), if_pos ⟨rfl, hm⟩] at h2
      simp only [Zg,Option.some.injEq,D.freeze,Zr] at h1
      exact .inr (h1.symm.trans h2)
    · rw [if_neg hmi] at h1
      by_cases hlt : i < m
      · rw [if_pos hlt] at h2
        simp only [Zg,Option.some.injEq] at h1
        rw [if_pos (by omega)] at h1
        exact .inr (h1.symm.trans h2)
      · rw [if_neg hlt, if_neg (by omega)] at h2
        exact .inl h2.symm
  · rw [if_neg (by omega), List.getElem?_eq_none (by rw [fcells_length]; omega)] at h1
    cases h1
theorem fc_start (top : Nat) (h : top + 1 < 16) : leL (List.replicate 16 D.nil) (fcells top (top + 1) []) := by
  have key : ∀ (l l' : List D), l.length = l'.length → (∀ (i : Nat) (d d' : D), l[i]? = some d → l'[i]? = some d' → leD d d') → leL l l' := by
    intro l
    induction l with
    | nil =>
      intro l' hl _
      have : l' = [] := List.eq_nil_of_length_eq_zero (by simpa using hl.symm)
      subst this
      trivial
    | cons d l ih =>
      intro l' hl hd
      cases l' with
      | nil => simp at hl
      | cons d' l' => exact ⟨hd 0 d d' rfl rfl, ih l' (by simpa using hl) fun i d d' h1 h2 => hd (i + 1) d d' (by simpa using h1) (by simpa using h2)⟩
  refine key _ _ (by simp [fcells_length]) fun i d d' h1 h2 => ?_
  have hi : i < 16 := by have := (List.getElem?_eq_some_iff.1 h2).1; rwa [fcells_length] at this
  rw [List.getElem?_replicate, if_pos hi] at h1
  simp only [fcells,List.getElem?_map,List.getElem?_range hi,Zg,Option.some.injEq] at h2
  injection h1 with h1
  subst h1
  split at h2
  · exact .inr h2
  · rw [if_neg (by omega)] at h2
    exact .inl h2.symm
theorem few_len {a b : List (List Int)} {n : Nat} {X : List Nat} (hl : a.length ≤ 13) (h : BfI a b (a.length - 1) n X) : X.length ≤ 4096 := by
  by_cases h1 : n ≤ a.length - 1
  · have h2 := (h.st h1).few
    have h3 : 2 ^ (a.length - 1) ≤ 2 ^ 12 := Nat.pow_le_pow_right (by omega) (by omega)
    have h4 : X.length ≤ X.length * 2 ^ n := Nat.le_mul_of_pos_right _ (Nat.pow_pos (by omega))
    omega
  · have := h.le
    rw [h.nil (by omega)]
    simp
theorem vis_len {a : List (List Int)} {n : Nat} {V : List Nat} (hl : a.length ≤ 13) (h : V.length * 2 ^ n ≤ 2 ^ (a.length - 1)) : V.length ≤ 4096 := by
  have h3 : 2 ^ (a.length - 1) ≤ 2 ^ 12 := Nat.pow_le_pow_right (by omega) (by omega)
  have h4 : V.length ≤ V.length * 2 ^ n := Nat.le_mul_of_pos_right _ (Nat.pow_pos (by omega))
  omega
theorem extRaw_take (S F : Nat) (X : List Nat) (j : Nat) (h : j < X.length) : extRaw S F (X.take (j + 1)) = extRaw S F (X.take j) ++ [(((X.getD j 0 * F : Nat) : Int), min (F : Int) ((S : Int) - ((X.getD j 0 * F : Nat) : Int)))] := by
  rw [List.take_succ_eq_append_getElem h]
  unfold extRaw
  rw [List.map_append]
  congr 1
  simp [h]
theorem extRaw_length (S F : Nat) (X : List Nat) : (extRaw S F X).length = X.length := by simp [extRaw]
theorem c27 (a b : Tr) : ACalls Try.prog 27 [trP a, trP b] (.tup [.p (exts (refDiff a b).1), .p (i64 (refDiff a b).2)]) := by
  obtain ⟨sa, fa, la⟩ := a
  obtain ⟨sb, fb, lb⟩ := b
  refine acalls_of tb_ok Try.func27 (c := _) rfl (by kernel_rfl) ?_
  intro X hP hX hro hpl
  have hb : tb.Ok X.P := hP ▸ tb_ok
  change AW X _ _ ⟨[], [.agg [i64 sa, i64 fa, lvls la], .agg [i64 sb, i64 fb, lvls lb], .any, .any, .any, .any, .any, .any, .any, .any, .any, .any, .any, .any, .any, .any, .any, .any, .any, .any, .any, .any, .any, .any, .any, .any, .any, .any, .any, .any, .any, .any, .any, .any, .any, .any, .any, .any, .any, .any, .any, .any, .any, .any, .any, .any, .any, .any, .any, .any, .any, .any, .any, .any, .any, .any, .any, .any, .any, .any, .any, .any, .any, .any, .any, .any, .any, .any, .any, .any, .any, .any, .any, .any, .any, .any, .any, .any, .any, .any, .any, .any, .any, .any, .any, .any, .any, .any, .any, .any, .any, .any, .any, .any, .any, .any, .any, .any, .any, .any, .any, .any, .any, .any, .any, .any, .any, .any, .any, .any, .any, .any, .any, .any, .any, .any, .any, .any, .any, .any, .any, .any, .any, .any, .any, .any, .any, .any, .any, .any, .any, .any, .any, .any, .any, .any, .any, .any, .any, .any, .any, .any, .any, .any, .any, .any, .any, .any, .any, .any], [], []⟩
  refine aw_seq ?_
  refine aw_regK hX hb [0, 1, 2, 3] rfl (σ' := ?s1) (fun K hK => ?h1) ?n1
  case h1 =>
    iterate 4 (refine st_op rfl (by simp (disch := omega) only [stepf,callOf,qop,fop,St.ev,St.put,cd,zd,Value.oneCell',tb_T,TypeDesc.aggB,getD_0,getD_s,Ze,Zd,Zc,Za,Zb,Zr,ZE,ZF,Zf,Zq,Zg,i64_w,Zt,Zs,ZM,ZL,Zl,Zo,ZG,ZH,St.addBox,D.boxCells,D.live,t1,ti1,t3,ti3,t24,ti24,t26,ti26,t58,ti58,t60,ti60,Zh,map_at_l,map_at_i,map_at_n] <;> exact rfl) ?_)
    refine aops_nil ?_
    exact hK
  refine exq_n ?_
  refine aw_seq ?_
  refine aw_seq ?_
  refine aw_regK hX hb [0, 1, 2, 3, 4] rfl (σ' := ?s2) (fun K hK => ?h2) ?n2
  case h2 =>
    iterate 5 (refine st_op rfl (by simp (disch := omega) only [stepf,callOf,qop,fop,St.ev,St.put,cd,zd,Value.oneCell',tb_T,TypeDesc.aggB,getD_0,getD_s,Ze,Zd,Zc,Za,Zb,Zr,ZE,ZF,Zf,Zq,Zg,i64_w,Zt,Zs,Zl,Zo,Zv,Zw,Zj,Zk,Zx,Zy,qLoad,bload,pload,pureAll,D.pure?,ZC,ZD,tb_N,tbO_N,tbW_N,tb_O,fBuildSlice,catCells,D.cells?,range_1,range_2,range_3,range_4,range_5,ZG,ZH,ZL,ZM,ZN,sec8_length,Nat.reduceAdd,Nat.reduceMul,qLen,t1,ti1,t2,ti2,t3,ti3,t5,ti5,t22,ti22,t24,ti24,t26,ti26,t50,ti50,t58,ti58,t60,ti60,t125,ti125,Zh,map_at_l,map_at_i,map_at_n] <;> exact rfl) ?_)
    refine aops_nil ?_
    exact hK
  refine exq_n ?_
  refine aw_block ?_
  refine aw_loop (ι := Nat) (fun i => i ≤ 2 ∧ (1 ≤ i → refChk ⟨sa, fa, la⟩ = 0) ∧ (2 ≤ i → refChk ⟨sb, fb, lb⟩ = 0)) (fun i => ⟨[], [.any, .any, .ptr 0 0, .ptr 1 0, .any, .any, .any, .any, .any, .any, .any, .any, .any, .any, .any, .any, .any, .any, .any, .any, .any, .any, .p (.sl 2 (twoC ⟨sa, fa, la⟩ ⟨sb, fb, lb⟩)), .p (i64 2), .p (i64 i), .any, .any, .any, .any, .any, .any, .any, .any, .any, .any, .any, .any, .any, .any, .any, .any, .any, .any, .any, .any, .any, .any, .any, .any, .any, .any, .any, .any, .any, .any, .any, .any, .any, .any, .any, .any, .any, .any, .any, .any, .any, .any, .any, .any, .any, .any, .any, .any, .any, .any, .any, .any, .any, .any, .any, .any, .any, .any, .any, .any, .any, .any, .any, .any, .any, .any, .any, .any, .any, .any, .any, .any, .any, .any, .any, .any, .any, .any, .any, .any, .any, .any, .any, .any, .any, .any, .any, .any, .any, .any, .any, .any, .any, .any, .any, .any, .any, .any, .any, .any, .any, .any, .any, .any, .any, .any, .any, .any, .any, .any, .any, .any, .any, .any, .any, .any, .any, .any, .any, .any, .any, .any, .any, .any, .any], [⟨26, [.p (i64 sa), .p (i64 fa), .p (lvls la)]⟩, ⟨26, [.p (i64 sb), .p (i64 fb), .p (lvls lb)]⟩], []⟩) (fun i => 2 - i) 0 (by exact ⟨Nat.zero_le _, fun h => by omega, fun h => by omega⟩) (wk_le ⟨rfl, leL_a (leL_a (leL_r rfl (leL_r rfl (leL_a (leL_a (leL_a (leL_a (leL_a (leL_a (leL_a (leL_a (leL_a (leL_a (leL_a (leL_a (leL_a (leL_a (leL_a (leL_a (leL_a (leL_a (leL_r rfl (leL_r rfl (leL_r rfl (leL_a (leL_a (leL_a (leL_a (leL_a (leL_a (leL_a (leL_a (leL_a (leL_a (leL_a (leL_a (leL_a (leL_a (leL_a (leL_a (leL_a (leL_a (leL_a (leL_a (leL_a (leL_a (leL_a (leL_a (leL_a (leL_a (leL_a (leL_a (leL_a (leL_a (leL_a (leL_a (leL_a (leL_a (leL_a (leL_a (leL_a (leL_a (leL_a (leL_a (leL_a (leL_a (leL_a (leL_a (leL_a (leL_a (leL_a (leL_a (leL_a (leL_a (leL_a (leL_a (leL_a (leL_a (leL_a (leL_a (leL_a (leL_a (leL_a (leL_a (leL_a (leL_a (leL_a (leL_a (leL_a (leL_a (leL_a (leL_a (leL_a (leL_a (leL_a (leL_a (leL_a (leL_a (leL_a (leL_a (leL_a (leL_a (leL_a (leL_a (leL_a (leL_a (leL_a (leL_a (leL_a (leL_a (leL_a (leL_a (leL_a (leL_a (leL_a (leL_a (leL_a (leL_a (leL_a (leL_a (leL_a (leL_a (leL_a (leL_a (leL_a (leL_a (leL_a (leL_a (leL_a (leL_a (leL_a (leL_a (leL_a (leL_a (leL_a (leL_a (leL_a (leL_a (leL_a (leL_a (leL_a (leL_a (leL_a (leL_a (leL_a (leL_a (leL_a (leL_a (leL_a (leL_nil)))))))))))))))))))))))))))))))))))))))))))))))))))))))))))))))))))))))))))))))))))))))))))))))))))))))))))))))))))))))))))))))))))))))))))))))))))))), (leB_r rfl (leL_r rfl (leL_r rfl (leL_r rfl (leL_nil)))) (leB_r rfl (leL_r rfl (leL_r rfl (leL_r rfl (leL_nil)))) (leB_nil _))), (leV_nil _), rfl, rfl⟩) ?_
  rintro i ⟨hi, h1, h2⟩
  have htl := two_len ⟨sa, fa, la⟩ ⟨sb, fb, lb⟩
  refine aw_seq ?_
  refine aw_regK hX hb [0] rfl (σ' := ?s3) (fun K hK => ?h3) ?n3
  case h3 =>
    (refine st_op rfl (by simp (disch := omega) only [stepf,callOf,qop,fop,St.ev,St.put,cd,zd,Value.oneCell',tb_T,TypeDesc.aggB,getD_0,getD_s,Ze,Zd,Zc,Za,Zb,Zr,ZE,ZF,Zf,Zq,Zg,i64_w,Zt,Zs,qBin,iop,t3,ti3,t24,ti24,t58,ti58,t60,ti60,Zh,map_at_l,map_at_i,map_at_n] <;> exact rfl) ?_)
    refine aops_nil ?_
    exact hK
  refine exq_n ?_
  refine aw_seq ?_
  refine aw_cond _ rfl (fun hc0 => ?_) (fun hc0 => ?_)
  · try simp only [Zp,Zi,ZK,ZJ,ne_eq,Zn,Zm,ZB,ZA,ZI,not_or,not_and,Zu] at hc0
    refine aw_skip ?_
    refine exq_n ?_
    refine aw_seq ?_
    refine aw_block ?_
    refine aw_seq ?_
    refine aw_regK hX hb [0, 1, 2, 3] rfl (σ' := ?s4) (fun K hK => ?h4) ?n4
    case h4 =>
      iterate 4 (refine st_op rfl (by simp (disch := omega) only [stepf,callOf,qop,fop,St.ev,St.put,cd,zd,Value.oneCell',tb_T,TypeDesc.aggB,getD_0,getD_s,Ze,Zd,Zc,Za,Zb,Zr,ZE,ZF,Zf,Zq,Zg,i64_w,Zt,Zs,Int.toNat_zero,Int.toNat_one,toNat_pred,toNat_succ,qIndexAddr,ZO,Nat.mul_one,ZC,Nat.zero_mul,Zh,Zl,Zo,Zv,Zw,Zj,Zk,Zx,Zy,qLoad,bload,pload,pureAll,D.pure?,ZD,ZM,ZL,ZG,ZH,St.addBox,Value.cells,fStore,D.boxCells,D.live,D.cells?,ZN,St.setVec,t3,ti3,t5,ti5,t22,ti22,t24,ti24,t26,ti26,t27,ti27,t50,ti50,t58,ti58,t60,ti60,t125,ti125,map_at_l,map_at_i,map_at_n,two_part,selC_len] <;> exact rfl) ?_)
      refine aops_nil ?_
      exact hK
    refine exq_n ?_
    refine aw_seq ?_
    refine aw_regK hX hb [0, 1, 2] rfl (σ' := ?s5) (fun K hK => ?h5) ?n5
    case h5 =>
      (refine st_op rfl (by simp (disch := omega) only [stepf,callOf,qop,fop,St.ev,St.put,cd,zd,Value.oneCell',tb_T,TypeDesc.aggB,getD_0,getD_s,Ze,Zd,Zc,Za,Zb,Zr,ZE,ZF,Zf,Zq,Zg,i64_w,Zt,Zs,Zl,Zo,Zv,Zw,Zj,Zk,Zx,Zy,qLoad,bload,pload,pureAll,D.pure?,ZC,ZD,pvAll,D.pv?,t3,ti3,t24,ti24,t26,ti26,t58,ti58,t60,ti60,Zh,map_at_l,map_at_i,map_at_n,selC_len,selC_take,pureAll_p] <;> exact rfl) ?_)
      refine st_call rfl (by simp only [callOf,St.ev,getD_0,getD_s,pvAll,D.pv?,ZG,ZH,zd,cd,Value.oneCell',Zr] <;> exact rfl) (acK hP (c31s ⟨sa, fa, la⟩ ⟨sb, fb, lb⟩ i)) (by simp only [St.put,Za,Zb] <;> exact rfl) ?_
      (refine st_op rfl (by simp (disch := omega) only [stepf,callOf,qop,fop,St.ev,St.put,cd,zd,Value.oneCell',tb_T,TypeDesc.aggB,getD_0,getD_s,Ze,Zd,Zc,Za,Zb,Zr,ZE,ZF,Zf,Zq,Zg,i64_w,Zt,Zs,Zl,Zo,Zv,Zw,Zj,Zk,Zx,Zy,qLoad,bload,pload,pureAll,D.pure?,ZC,ZD,pvAll,D.pv?,t3,ti3,t24,ti24,t26,ti26,t58,ti58,t60,ti60,Zh,map_at_l,map_at_i,map_at_n,selC_len,selC_take,pureAll_p] <;> exact rfl) ?_)
      refine aops_nil ?_
      exact hK
    refine exq_n ?_
    refine aw_seq ?_
    refine aw_regK hX hb [0, 1] rfl (σ' := ?s6) (fun K hK => ?h6) ?n6
    case h6 =>
      iterate 2 (refine st_op rfl (by simp (disch := omega) only [stepf,callOf,qop,fop,St.ev,St.put,cd,zd,Value.oneCell',tb_T,TypeDesc.aggB,getD_0,getD_s,Ze,Zd,Zc,Za,Zb,Zr,ZE,ZF,Zf,Zq,Zg,i64_w,Zt,Zs,qBin,iop,t27,ti27,Zh,map_at_l,map_at_i,map_at_n] <;> exact rfl) ?_)
      refine aops_nil ?_
      exact hK
    refine exq_n ?_
    refine aw_cond _ rfl (fun hc1 => ?_) (fun hc1 => ?_)
    · try simp only [Zp,Zi,ZK,ZJ,ne_eq,Zn,Zm,ZB,ZA,ZI,not_or,not_and,Zu] at hc1
      refine aw_seq ?_
      refine aw_regK hX hb [0, 1, 2] rfl (σ' := ?s7) (fun K hK => ?h7) ?n7
      case h7 =>
        iterate 3 (refine st_op rfl (by simp (disch := omega) only [stepf,callOf,qop,fop,St.ev,St.put,cd,zd,Value.oneCell',tb_T,TypeDesc.aggB,getD_0,getD_s,Ze,Zd,Zc,Za,Zb,Zr,ZE,ZF,Zf,Zq,Zg,i64_w,Zt,Zs,Zh,map_at_l,map_at_i,map_at_n] <;> exact rfl) ?_)
        refine aops_nil ?_
        exact hK
      refine exq_n ?_
      refine aw_ret ?_
      refine exb_r ?_
      refine exq_r ?_
      refine exq_r ?_
      refine exb_r ?_
      refine exq_r ?_
      exact ret_r rfl (resOf_two rfl rfl (by first | rfl | (first | exact diff_bad (by omega) h1 hc1 | (rw [refDiff, if_neg (not_not_intro (h1 (by omega))), if_neg (not_not_intro (h2 (by omega))), if_pos hc2]; rfl) | (rw [refDiff, if_neg (not_not_intro hch0), if_neg (not_not_intro hch1), if_neg (by rintro (h | h) <;> exact h rfl)]; dsimp only; rw [foundN_L, ← hX0, refExt_merge, Int.toNat_natCast, Int.toNat_natCast, show X.take j = X from List.take_of_length_le (by omega)]))))
    · try simp only [Zp,Zi,ZK,ZJ,ne_eq,Zn,Zm,ZB,ZA,ZI,not_or,not_and,Zu] at hc1
      refine aw_skip ?_
      refine exb_n ?_
      refine exq_n ?_
      refine aw_regK hX hb [0, 1] rfl (σ' := ?s8) (fun K hK => ?h8) ?n8
      case h8 =>
        iterate 2 (refine st_op rfl (by simp (disch := omega) only [stepf,callOf,qop,fop,St.ev,St.put,cd,zd,Value.oneCell',tb_T,TypeDesc.aggB,getD_0,getD_s,Ze,Zd,Zc,Za,Zb,Zr,ZE,ZF,Zf,Zq,Zg,i64_w,Zt,Zs,qBin,iop,t1,ti1,t3,ti3,t24,ti24,t58,ti58,t60,ti60,Zh,map_at_l,map_at_i,map_at_n] <;> exact rfl) ?_)
        refine aops_nil ?_
        exact hK
      refine exq_n ?_
      exact ⟨i + 1, by (have hi2 : i = 0 ∨ i = 1 := by omega); rcases hi2 with rfl | rfl; exact ⟨by omega, fun _ => hc1, fun h => by omega⟩; exact ⟨by omega, fun _ => h1 (by omega), fun _ => hc1⟩, by (try dsimp only); omega, wk_le ⟨rfl, leL_a (leL_a (leL_r rfl (leL_r rfl (leL_a (leL_a (leL_a (leL_a (leL_a (leL_a (leL_a (leL_a (leL_a (leL_a (leL_a (leL_a (leL_a (leL_a (leL_a (leL_a (leL_a (leL_a (leL_r rfl (leL_r rfl (leL_r rfl (leL_a (leL_a (leL_a (leL_a (leL_a (leL_a (leL_a (leL_a (leL_a (leL_a (leL_a (leL_a (leL_a (leL_a (leL_a (leL_a (leL_a (leL_a (leL_a (leL_a (leL_a (leL_a (leL_a (leL_a (leL_a (leL_a (leL_a (leL_a (leL_a (leL_a (leL_a (leL_a (leL_a (leL_a (leL_a (leL_a (leL_a (leL_a (leL_a (leL_a (leL_a (leL_a (leL_a (leL_a (leL_a (leL_a (leL_a (leL_a (leL_a (leL_a (leL_a (leL_a (leL_a (leL_a (leL_a (leL_a (leL_a (leL_a (leL_a (leL_a (leL_a (leL_a (leL_a (leL_a (leL_a (leL_a (leL_a (leL_a (leL_a (leL_a (leL_a (leL_a (leL_a (leL_a (leL_a (leL_a (leL_a (leL_a (leL_a (leL_a (leL_a (leL_a (leL_a (leL_a (leL_a (leL_a (leL_a (leL_a (leL_a (leL_a (leL_a (leL_a (leL_a (leL_a (leL_a (leL_a (leL_a (leL_a (leL_a (leL_a (leL_a (leL_a (leL_a (leL_a (leL_a (leL_a (leL_a (leL_a (leL_a (leL_a (leL_a (leL_a (leL_a (leL_a (leL_a (leL_a (leL_a (leL_a (leL_a (leL_a (leL_a (leL_a (leL_a (leL_a (leL_a (leL_nil)))))))))))))))))))))))))))))))))))))))))))))))))))))))))))))))))))))))))))))))))))))))))))))))))))))))))))))))))))))))))))))))))))))))))))))))))))))), (leB_r rfl (leL_r rfl (leL_r rfl (leL_r rfl (leL_nil)))) (leB_r rfl (leL_r rfl (leL_r rfl (leL_r rfl (leL_nil)))) (leB_nil _))), (leV_nil _), rfl, rfl⟩⟩
  · try simp only [Zp,Zi,ZK,ZJ,ne_eq,Zn,Zm,ZB,ZA,ZI,not_or,not_and,Zu] at hc0
    refine aw_exit ?_
    refine exq_e ?_
    refine exq_e ?_
    refine exb_h ?_
    refine exq_n ?_
    refine aw_seq ?_
    refine aw_seq ?_
    refine aw_regJ hX hb [0, 1, 2, 3, 4, 5, 6, 7, 8, 9, 10, 11] rfl (ts := [34, 35, 36, 37, 38, 39, 40, 41, 42, 43, 44]) (t := 45) (d := .p (bv (sa ≠ sb ∨ fa ≠ fb))) (σ' := ?s9) ?j9 ?h9 ?n9
    case j9 => simp only [St.join,List.foldl,Za,Zb]; exact rfl
    case h9 =>
      iterate 6 (all_goals refine st_op rfl (by simp (disch := omega) only [stepf,callOf,qop,fop,St.ev,St.put,cd,zd,Value.oneCell',tb_T,TypeDesc.aggB,getD_0,getD_s,Ze,Zd,Zc,Za,Zb,Zr,ZE,ZF,Zf,Zq,Zg,i64_w,Zt,Zs,qFieldAddr,fieldOf,Zl,Zo,Zv,Zw,Zj,Zk,Zx,Zy,qLoad,bload,pload,pureAll,D.pure?,ZC,ZD,qBin,iop,t1,ti1,t2,ti2,t3,ti3,t24,ti24,t26,ti26,t35,ti35,t40,ti40,t58,ti58,t60,ti60,Zh,map_at_l,map_at_i,map_at_n] <;> exact rfl) ?_)
      iterate 5 (all_goals first | (refine st_g1 rfl rfl rfl (by simp (disch := omega) only [stepf,callOf,qop,fop,St.ev,St.put,cd,zd,Value.oneCell',tb_T,TypeDesc.aggB,getD_0,getD_s,Ze,Zd,Zc,Za,Zb,Zr,ZE,ZF,Zf,Zq,Zg,i64_w,Zt,Zs,qFieldAddr,fieldOf,Zl,Zo,Zv,Zw,Zj,Zk,Zx,Zy,qLoad,bload,pload,pureAll,D.pure?,ZC,ZD,qBin,iop,t1,ti1,t2,ti2,t3,ti3,t24,ti24,t26,ti26,t35,ti35,t40,ti40,t58,ti58,t60,ti60,Zh,map_at_l,map_at_i,map_at_n] <;> exact rfl) ?_) | (first | (refine st_g0 rfl rfl rfl (by simp only [St.put,Za,Zb] <;> exact rfl) ?_) | (refine st_gu rfl rfl rfl (by simp only [St.put,Za,Zb] <;> exact rfl) ?_)) | (refine st_split rfl rfl rfl (by simp only [Za,Zb] <;> exact rfl) (by simp only [Za,Zb] <;> exact rfl) (fun hg => ?_) (fun hg => ?_) <;> (try simp only [Zp,Zi,ZJ,ZK,ne_eq,Zn,Zm,Bool.not_eq_true,Zu] at hg) <;> first | (refine st_g1 rfl rfl rfl (by simp (disch := omega) only [stepf,callOf,qop,fop,St.ev,St.put,cd,zd,Value.oneCell',tb_T,TypeDesc.aggB,getD_0,getD_s,Ze,Zd,Zc,Za,Zb,Zr,ZE,ZF,Zf,Zq,Zg,i64_w,Zt,Zs,qFieldAddr,fieldOf,Zl,Zo,Zv,Zw,Zj,Zk,Zx,Zy,qLoad,bload,pload,pureAll,D.pure?,ZC,ZD,qBin,iop,t1,ti1,t2,ti2,t3,ti3,t24,ti24,t26,ti26,t35,ti35,t40,ti40,t58,ti58,t60,ti60,Zh,map_at_l,map_at_i,map_at_n] <;> exact rfl) ?_) | (first | (refine st_g0 rfl rfl rfl (by simp only [St.put,Za,Zb] <;> exact rfl) ?_) | (refine st_gu rfl rfl rfl (by simp only [St.put,Za,Zb] <;> exact rfl) ?_))))
      (all_goals refine st_op rfl (by simp (disch := omega) only [stepf,callOf,qop,fop,St.ev,St.put,cd,zd,Value.oneCell',tb_T,TypeDesc.aggB,getD_0,getD_s,Ze,Zd,Zc,Za,Zb,Zr,ZE,ZF,Zf,Zq,Zg,i64_w,Zt,Zs,qFieldAddr,fieldOf,Zl,Zo,Zv,Zw,Zj,Zk,Zx,Zy,qLoad,bload,pload,pureAll,D.pure?,ZC,ZD,qBin,iop,t1,ti1,t2,ti2,t3,ti3,t24,ti24,t26,ti26,t35,ti35,t40,ti40,t58,ti58,t60,ti60,Zh,map_at_l,map_at_i,map_at_n] <;> exact rfl) ?_)
      all_goals refine aops_nil ?_
      all_goals refine ⟨rfl, ?_, leB_self _, leV_self _, rfl, rfl⟩
      all_goals repeat' (first | exact leL_nil | refine leL_a ?_ | refine leL_r rfl ?_ | refine leL_r ?_ ?_)
      all_goals refine jn ?_
      all_goals ((try simp only [Zp,Zi,ZJ,ZK,Bool.not_eq_true,Zm,Zn,ne_eq,Zf,true_iff,false_iff,iff_true,iff_false] at *) <;> omega)
    refine exq_n ?_
    refine aw_cond _ rfl (fun hc2 => ?_) (fun hc2 => ?_)
    · try simp only [Zp,Zi,ZK,ZJ,ne_eq,Zn,Zm,ZB,ZA,ZI,not_or,not_and,Zu] at hc2
      refine aw_seq ?_
      refine aw_regK hX hb [0, 1] rfl (σ' := ?s10) (fun K hK => ?h10) ?n10
      case h10 =>
        iterate 2 (refine st_op rfl (by simp (disch := omega) only [stepf,callOf,qop,fop,St.ev,St.put,cd,zd,Value.oneCell',tb_T,TypeDesc.aggB,getD_0,getD_s,Ze,Zd,Zc,Za,Zb,Zr,ZE,ZF,Zf,Zq,Zg,i64_w,Zt,Zs,t5,ti5,t22,ti22,t50,ti50,Zh,map_at_l,map_at_i,map_at_n] <;> exact rfl) ?_)
        refine aops_nil ?_
        exact hK
      refine exq_n ?_
      refine aw_ret ?_
      refine exq_r ?_
      exact ret_r rfl (resOf_two rfl rfl (by first | rfl | (first | exact diff_bad (by omega) h1 hc1 | (rw [refDiff, if_neg (not_not_intro (h1 (by omega))), if_neg (not_not_intro (h2 (by omega))), if_pos hc2]; rfl) | (rw [refDiff, if_neg (not_not_intro hch0), if_neg (not_not_intro hch1), if_neg (by rintro (h | h) <;> exact h rfl)]; dsimp only; rw [foundN_L, ← hX0, refExt_merge, Int.toNat_natCast, Int.toNat_natCast, show X.take j = X from List.take_of_length_le (by omega)]))))
    · try simp only [Zp,Zi,ZK,ZJ,ne_eq,Zn,Zm,ZB,ZA,ZI,not_or,not_and,Zu] at hc2
      obtain ⟨hch0, hch1⟩ : refChk ⟨sa, fa, la⟩ = 0 ∧ refChk ⟨sb, fb, lb⟩ = 0 := ⟨h1 (by omega), h2 (by omega)⟩
      obtain ⟨rfl, rfl⟩ : sa = sb ∧ fa = fb := hc2
      have hab : Alike la lb := refChk_alike hch0 hch1 rfl rfl
      have hrow := (refChk_row hch0).1
      have hfw := refChk_few hch0
      obtain ⟨S, F, hS, hF, q1, q2, q3, q4, q5, q6⟩ := refChk_ok hch0
      dsimp only at hS hF q5 q6 hrow hfw
      subst hS
      subst hF
      have ek : ((la.length : Int) - 1) = ((la.length - 1 : Nat) : Int) := by omega
      have hhv : Halves la := by rw [← q6]; exact halves_of _ _ (Nat.le_refl _)
      have hlast : 1 ≤ (la.getD (la.length - 1) []).length := Nat.le_of_eq (sh_last q5 (fun h => by rw [h] at hfw; exact absurd hfw.1 (by simp))).symm
      have hsm := hab.small
      have hrw := hab.row
      have hln := hab.len
      refine aw_skip ?_
      refine exq_n ?_
      refine aw_seq ?_
      refine aw_regK hX hb [0] rfl (σ' := ?s11) (fun K hK => ?h11) ?n11
      case h11 =>
        (refine st_op rfl (by simp (disch := omega) only [stepf,callOf,qop,fop,St.ev,St.put,cd,zd,Value.oneCell',tb_T,TypeDesc.aggB,getD_0,getD_s,Ze,Zd,Zc,Za,Zb,Zr,ZE,ZF,Zf,Zq,Zg,i64_w,Zt,Zs,ZM,ZL,Zl,Zo,ZG,ZH,St.addBox,Value.cells,t3,ti3,t87,ti87,t126,ti126,Zh,map_at_l,map_at_i,map_at_n] <;> exact rfl) ?_)
        refine aops_nil ?_
        exact hK
      refine exq_n ?_
      refine aw_seq ?_
      refine aw_regK hX hb [0, 1, 2, 3, 4] rfl (σ' := ?s12) (fun K hK => ?h12) ?n12
      case h12 =>
        iterate 5 (refine st_op rfl (by simp (disch := omega) only [stepf,callOf,qop,fop,St.ev,St.put,cd,zd,Value.oneCell',tb_T,TypeDesc.aggB,getD_0,getD_s,Ze,Zd,Zc,Za,Zb,Zr,ZE,ZF,Zf,Zq,Zg,i64_w,Zt,Zs,qFieldAddr,fieldOf,Zl,Zo,Zv,Zw,Zj,Zk,Zx,Zy,qLoad,bload,pload,pureAll,D.pure?,ZC,ZD,qLen,qBin,iop,t1,ti1,t2,ti2,t3,ti3,t5,ti5,t22,ti22,t24,ti24,t26,ti26,t47,ti47,t50,ti50,t58,ti58,t60,ti60,Zh,map_at_l,map_at_i,map_at_n,ek] <;> exact rfl) ?_)
        refine aops_nil ?_
        exact hK
      refine exq_n ?_
      refine aw_seq ?_
      refine aw_seq ?_
      refine aw_regK hX hb [0, 1] rfl (σ' := ?s13) (fun K hK => ?h13) ?n13
      case h13 =>
        iterate 2 (refine st_op rfl (by simp (disch := omega) only [stepf,callOf,qop,fop,St.ev,St.put,cd,zd,Value.oneCell',tb_T,TypeDesc.aggB,getD_0,getD_s,Ze,Zd,Zc,Za,Zb,Zr,ZE,ZF,Zf,Zq,Zg,i64_w,Zt,Zs,t5,ti5,t50,ti50,Zh,map_at_l,map_at_i,map_at_n] <;> exact rfl) ?_)
        refine aops_nil ?_
        exact hK
      refine exq_n ?_
      refine aw_block ?_
      refine aw_loop (ι := Int × List Nat) (fun p => -1 ≤ p.1 ∧ BfI la lb (la.length - 1) (p.1 + 1).toNat p.2) (fun p => ⟨[], [.any, .any, .ptr 0 0, .ptr 1 0, .any, .any, .any, .any, .any, .ptr 2 0, .p (i64 ((la.length - 1) : Nat)), .p (i64 p.1), .any, .any, .any, .any, .any, .any, .any, .any, .any, .any, .any, .any, .any, .any, .any, .any, .any, .any, .any, .any, .any, .any, .any, .any, .any, .any, .any, .any, .any, .any, .any, .any, .any, .any, .any, .any, .any, .any, .any, .any, .any, .any, .any, .any, .any, .any, .any, .any, .any, .any, .any, .any, .any, .any, .any, .any, .any, .any, .any, .any, .any, .any, .any, .any, .any, .any, .any, .any, .any, .any, .any, .any, .any, .any, .any, .any, .any, .any, .any, .any, .any, .any, .any, .any, .any, .any, .any, .any, .any, .any, .any, .any, .any, .any, .any, .any, .any, .any, .any, .any, .any, .any, .any, .any, .any, .any, .any, .any, .any, .any, .any, .any, .any, .any, .any, .any, .any, .any, .any, .any, .any, .any, .any, .any, .any, .any, .any, .any, .any, .any, .any, .any, .any, .any, .any, .any, .any, .any], [⟨26, [.p (i64 (S : Int)), .p (i64 (F : Int)), .p (lvls la)]⟩, ⟨26, [.p (i64 (S : Int)), .p (i64 (F : Int)), .p (lvls lb)]⟩, ⟨126, fcells (la.length - 1) (p.1 + 1).toNat p.2⟩], []⟩) (fun p => (p.1 + 1).toNat) (((la.length - 1 : Nat) : Int), []) (by exact ⟨by dsimp only; omega, by dsimp only; rw [toNat_succ]; exact bf_start _ _ _⟩) (wk_le ⟨rfl, leL_a (leL_a (leL_r rfl (leL_r rfl (leL_a (leL_a (leL_a (leL_a (leL_a (leL_r rfl (leL_r rfl (leL_r rfl (leL_a (leL_a (leL_a (leL_a (leL_a (leL_a (leL_a (leL_a (leL_a (leL_a (leL_a (leL_a (leL_a (leL_a (leL_a (leL_a (leL_a (leL_a (leL_a (leL_a (leL_a (leL_a (leL_a (leL_a (leL_a (leL_a (leL_a (leL_a (leL_a (leL_a (leL_a (leL_a (leL_a (leL_a (leL_a (leL_a (leL_a (leL_a (leL_a (leL_a (leL_a (leL_a (leL_a (leL_a (leL_a (leL_a (leL_a (leL_a (leL_a (leL_a (leL_a (leL_a (leL_a (leL_a (leL_a (leL_a (leL_a (leL_a (leL_a (leL_a (leL_a (leL_a (leL_a (leL_a (leL_a (leL_a (leL_a (leL_a (leL_a (leL_a (leL_a (leL_a (leL_a (leL_a (leL_a (leL_a (leL_a (leL_a (leL_a (leL_a (leL_a (leL_a (leL_a (leL_a (leL_a (leL_a (leL_a (leL_a (leL_a (leL_a (leL_a (leL_a (leL_a (leL_a (leL_a (leL_a (leL_a (leL_a (leL_a (leL_a (leL_a (leL_a (leL_a (leL_a (leL_a (leL_a (leL_a (leL_a (leL_a (leL_a (leL_a (leL_a (leL_a (leL_a (leL_a (leL_a (leL_a (leL_a (leL_a (leL_a (leL_a (leL_a (leL_a (leL_a (leL_a (leL_a (leL_a (leL_a (leL_a (leL_a (leL_a (leL_a (leL_a (leL_a (leL_a (leL_a (leL_a (leL_a (leL_nil)))))))))))))))))))))))))))))))))))))))))))))))))))))))))))))))))))))))))))))))))))))))))))))))))))))))))))))))))))))))))))))))))))))))))))))))))))))), (leB_r rfl (leL_r rfl (leL_r rfl (leL_r rfl (leL_nil)))) (leB_r rfl (leL_r rfl (leL_r rfl (leL_r rfl (leL_nil)))) (leB_r rfl (by first | exact fc_start _ (by omega) | (dsimp only; rw [show ((m : Int) - 1 + 1).toNat = m by omega]; exact fc_next (la.length - 1) m X _ (by omega) (by omega))) (leB_nil _)))), (leV_nil _), rfl, (bc3 rfl rfl (fcells_in _ _ _ _ _))⟩) ?_
      rintro ⟨lvI, X⟩ ⟨hlv, hI⟩
      dsimp only at hlv hI ⊢
      refine aw_seq ?_
      refine aw_seq ?_
      refine aw_regK hX hb [0, 1] rfl (σ' := ?s14) (fun K hK => ?h14) ?n14
      case h14 =>
        iterate 2 (refine st_op rfl (by simp (disch := omega) only [stepf,callOf,qop,fop,St.ev,St.put,cd,zd,Value.oneCell',tb_T,TypeDesc.aggB,getD_0,getD_s,Ze,Zd,Zc,Za,Zb,Zr,ZE,ZF,Zf,Zq,Zg,i64_w,Zt,Zs,qBin,iop,t3,ti3,Zh,map_at_l,map_at_i,map_at_n] <;> exact rfl) ?_)
        refine aops_nil ?_
        exact hK
      refine exq_n ?_
      refine aw_cond _ rfl (fun hc3 => ?_) (fun hc3 => ?_)
      · try simp only [Zp,Zi,ZK,ZJ,ne_eq,Zn,Zm,ZB,ZA,ZI,not_or,not_and,Zu] at hc3
        obtain ⟨m, rfl⟩ : ∃ m : Nat, lvI = m := ⟨lvI.toNat, by omega⟩
        rw [toNat_succ m] at hI ⊢
        have hml := hI.le
        have hXl := few_len (by omega) hI
        obtain ⟨hv1, hv2, hv3⟩ := vis_ok hhv hlast (by omega) (by omega) hI
        rw [Nat.add_sub_cancel] at hv1 hv2 hv3
        have hvl := vis_len (by omega) hv2
        have hlam := hsm m
        have hlbm := hrw m
        have hnx := bf_next hhv hlast (by omega) (by omega) hI
        rw [Nat.add_sub_cancel] at hnx
        refine aw_skip ?_
        refine exq_n ?_
        refine aw_seq ?_
        refine aw_block ?_
        refine aw_seq ?_
        refine aw_regK hX hb [0, 1] rfl (σ' := ?s15) (fun K hK => ?h15) ?n15
        case h15 =>
          iterate 2 (refine st_op rfl (by simp (disch := omega) only [stepf,callOf,qop,fop,St.ev,St.put,cd,zd,Value.oneCell',tb_T,TypeDesc.aggB,getD_0,getD_s,Ze,Zd,Zc,Za,Zb,Zr,ZE,ZF,Zf,Zq,Zg,i64_w,Zt,Zs,tb_N,tbO_N,tbW_N,tb_O,fBuildSlice,catCells,D.cells?,D.pure?,range_1,range_2,range_3,range_4,range_5,ZG,ZH,ZL,ZM,ZN,Zl,Zo,sec8_length,Nat.reduceAdd,Nat.reduceMul,t1,ti1,t3,ti3,t87,ti87,Zh,map_at_l,map_at_i,map_at_n] <;> exact rfl) ?_)
          refine aops_nil ?_
          exact hK
        refine exq_n ?_
        refine aw_seq ?_
        refine aw_seq ?_
        refine aw_regK hX hb [0, 1, 2] rfl (σ' := ?s16) (fun K hK => ?h16) ?n16
        case h16 =>
          iterate 3 (refine st_op rfl (by simp (disch := omega) only [stepf,callOf,qop,fop,St.ev,St.put,cd,zd,Value.oneCell',tb_T,TypeDesc.aggB,getD_0,getD_s,Ze,Zd,Zc,Za,Zb,Zr,ZE,ZF,Zf,Zq,Zg,i64_w,Zt,Zs,qBin,iop,t3,ti3,Zh,map_at_l,map_at_i,map_at_n] <;> exact rfl) ?_)
          refine aops_nil ?_
          exact hK
        refine exq_n ?_
        refine aw_wkJ (σ' := ⟨[], [.any, .any, .ptr 0 0, .ptr 1 0, .any, .any, .any, .any, .any, .ptr 2 0, .p (i64 ((la.length - 1) : Nat)), .p (i64 (m : Int)), .p (natP (visL la (la.length - 1) (m + 1) X)), .any, .any, .any, .any, .any, .any, .any, .any, .any, .any, .any, .any, .any, .any, .any, .any, .any, .any, .any, .any, .any, .any, .any, .any, .any, .any, .any, .any, .any, .any, .any, .any, .any, .any, .any, .any, .any, .any, .any, .any, .any, .any, .any, .any, .any, .any, .any, .any, .any, .any, .any, .any, .any, .any, .any, .any, .any, .any, .any, .any, .any, .any, .any, .any, .any, .any, .any, .any, .any, .any, .any, .any, .any, .any, .any, .any, .any, .any, .any, .any, .any, .any, .any, .any, .any, .any, .any, .any, .any, .any, .any, .any, .any, .any, .any, .any, .any, .any, .any, .any, .any, .any, .any, .any, .any, .any, .any, .any, .any, .any, .any, .any, .any, .any, .any, .any, .any, .any, .any, .any, .any, .any, .any, .any, .any, .any, .any, .any, .any, .any, .any, .any, .any, .any, .any, .any, .any], [⟨26, [.p (i64 (S : Int)), .p (i64 (F : Int)), .p (lvls la)]⟩, ⟨26, [.p (i64 (S : Int)), .p (i64 (F : Int)), .p (lvls lb)]⟩, ⟨126, fcells (la.length - 1) (m + 1) X⟩], []⟩) ?_ ?_
        · refine aw_cond _ rfl (fun hc4 => ?_) (fun hc4 => ?_)
          · try simp only [Zp,Zi,ZK,ZJ,ne_eq,Zn,Zm,ZB,ZA,ZI,not_or,not_and,Zu] at hc4
            have hmt : m + 1 ≤ la.length - 1 := by omega
            have fcm := fcells_at (la.length - 1) (m + 1) X hmt (by omega)
            have hin := (hI.st hmt).inr
            have hsm1 := hsm (m + 1)
            refine aw_seq ?_
            refine aw_regK hX hb [0] rfl (σ' := ?s17) (fun K hK => ?h17) ?n17
            case h17 =>
              (refine st_op rfl (by simp (disch := omega) only [stepf,callOf,qop,fop,St.ev,St.put,cd,zd,Value.oneCell',tb_T,TypeDesc.aggB,getD_0,getD_s,Ze,Zd,Zc,Za,Zb,Zr,ZE,ZF,Zf,Zq,Zg,i64_w,Zt,Zs,Zh,map_at_l,map_at_i,map_at_n] <;> exact rfl) ?_)
              refine aops_nil ?_
              exact hK
            refine exq_n ?_
            refine aw_nil 12 3 1 rfl (σ' := ?s18) ?h18 ?n18
            case h18 => simp only [St.nilSlot,St.addVec,Za,Zb,Zl,Zo,ZL,ZM]; exact rfl
            refine aw_seq ?_
            refine aw_regK hX hb [0, 1, 2, 3, 4, 5] rfl (σ' := ?s19) (fun K hK => ?h19) ?n19
            case h19 =>
              iterate 6 (refine st_op rfl (by simp (disch := omega) only [stepf,callOf,qop,fop,St.ev,St.put,cd,zd,Value.oneCell',tb_T,TypeDesc.aggB,getD_0,getD_s,Ze,Zd,Zc,Za,Zb,Zr,ZE,ZF,Zf,Zq,Zg,i64_w,Zt,Zs,qBin,iop,Int.toNat_zero,Int.toNat_one,toNat_pred,toNat_succ,qIndexAddr,ZO,Nat.mul_one,ZC,Nat.zero_mul,Zh,Zl,Zo,Zv,Zw,Zj,Zk,Zx,Zy,qLoad,bload,pload,pureAll,D.pure?,ZD,qLen,t1,ti1,t3,ti3,t58,ti58,t60,ti60,t87,ti87,t126,ti126,map_at_l,map_at_i,map_at_n,fcm] <;> exact rfl) ?_)
              refine aops_nil ?_
              exact hK
            refine exq_n ?_
            refine aw_block ?_
            refine aw_loop (ι := Nat) (fun j => j ≤ X.length) (fun j => ⟨[], [.any, .any, .ptr 0 0, .ptr 1 0, .any, .any, .any, .any, .any, .ptr 2 0, .p (i64 ((la.length - 1) : Nat)), .p (i64 (m : Int)), .vref 0, .any, .any, .any, .any, .any, .any, .any, .any, .any, .any, .any, .any, .any, .any, .any, .any, .any, .any, .any, .any, .any, .any, .any, .any, .any, .any, .any, .any, .any, .any, .any, .any, .any, .any, .any, .any, .any, .any, .any, .any, .any, .any, .any, .any, .any, .any, .any, .any, .any, .p (natP X), .p (i64 X.length), .p (i64 j), .any, .any, .any, .any, .any, .any, .any, .any, .any, .any, .any, .any, .any, .any, .any, .any, .any, .any, .any, .any, .any, .any, .any, .any, .any, .any, .any, .any, .any, .any, .any, .any, .any, .any, .any, .any, .any, .any, .any, .any, .any, .any, .any, .any, .any, .any, .any, .any, .any, .any, .any, .any, .any, .any, .any, .any, .any, .any, .any, .any, .any, .any, .any, .any, .any, .any, .any, .any, .any, .any, .any, .any, .any, .any, .any, .any, .any, .any, .any, .any, .any, .any, .any, .any, .any], [⟨26, [.p (i64 (S : Int)), .p (i64 (F : Int)), .p (lvls la)]⟩, ⟨26, [.p (i64 (S : Int)), .p (i64 (F : Int)), .p (lvls lb)]⟩, ⟨126, fcells (la.length - 1) (m + 1) X⟩], [some ⟨3, 1, (kids la m (X.take j)).length, (kids la m (X.take j)).map fun n : Nat => i64 (n : Int)⟩]⟩) (fun j => X.length - j) 0 (by exact Nat.zero_le _) (wk_le ⟨rfl, leL_a (leL_a (leL_r (by first | rfl | (first | (rw [kids_take la m X j (by omega), kid, if_pos (by omega)]; simp) | (rw [kids_take la m X j (by omega), kid, if_neg (by omega)]; simp))) (leL_r (by first | rfl | (first | (rw [kids_take la m X j (by omega), kid, if_pos (by omega)]; simp) | (rw [kids_take la m X j (by omega), kid, if_neg (by omega)]; simp))) (leL_a (leL_a (leL_a (leL_a (leL_a (leL_r (by first | rfl | (first | (rw [kids_take la m X j (by omega), kid, if_pos (by omega)]; simp) | (rw [kids_take la m X j (by omega), kid, if_neg (by omega)]; simp))) (leL_r (by first | rfl | (first | (rw [kids_take la m X j (by omega), kid, if_pos (by omega)]; simp) | (rw [kids_take la m X j (by omega), kid, if_neg (by omega)]; simp))) (leL_r (by first | rfl | (first | (rw [kids_take la m X j (by omega), kid, if_pos (by omega)]; simp) | (rw [kids_take la m X j (by omega), kid, if_neg (by omega)]; simp))) (leL_r (by first | rfl | (first | (rw [kids_take la m X j (by omega), kid, if_pos (by omega)]; simp) | (rw [kids_take la m X j (by omega), kid, if_neg (by omega)]; simp))) (leL_a (leL_a (leL_a (leL_a (leL_a (leL_a (leL_a (leL_a (leL_a (leL_a (leL_a (leL_a (leL_a (leL_a (leL_a (leL_a (leL_a (leL_a (leL_a (leL_a (leL_a (leL_a (leL_a (leL_a (leL_a (leL_a (leL_a (leL_a (leL_a (leL_a (leL_a (leL_a (leL_a (leL_a (leL_a (leL_a (leL_a (leL_a (leL_a (leL_a (leL_a (leL_a (leL_a (leL_a (leL_a (leL_a (leL_a (leL_a (leL_a (leL_r (by first | rfl | (first | (rw [kids_take la m X j (by omega), kid, if_pos (by omega)]; simp) | (rw [kids_take la m X j (by omega), kid, if_neg (by omega)]; simp))) (leL_r (by first | rfl | (first | (rw [kids_take la m X j (by omega), kid, if_pos (by omega)]; simp) | (rw [kids_take la m X j (by omega), kid, if_neg (by omega)]; simp))) (leL_r (by first | rfl | (first | (rw [kids_take la m X j (by omega), kid, if_pos (by omega)]; simp) | (rw [kids_take la m X j (by omega), kid, if_neg (by omega)]; simp))) (leL_a (leL_a (leL_a (leL_a (leL_a (leL_a (leL_a (leL_a (leL_a (leL_a (leL_a (leL_a (leL_a (leL_a (leL_a (leL_a (leL_a (leL_a (leL_a (leL_a (leL_a (leL_a (leL_a (leL_a (leL_a (leL_a (leL_a (leL_a (leL_a (leL_a (leL_a (leL_a (leL_a (leL_a (leL_a (leL_a (leL_a (leL_a (leL_a (leL_a (leL_a (leL_a (leL_a (leL_a (leL_a (leL_a (leL_a (leL_a (leL_a (leL_a (leL_a (leL_a (leL_a (leL_a (leL_a (leL_a (leL_a (leL_a (leL_a (leL_a (leL_a (leL_a (leL_a (leL_a (leL_a (leL_a (leL_a (leL_a (leL_a (leL_a (leL_a (leL_a (leL_a (leL_a (leL_a (leL_a (leL_a (leL_a (leL_a (leL_a (leL_a (leL_a (leL_a (leL_a (leL_a (leL_nil)))))))))))))))))))))))))))))))))))))))))))))))))))))))))))))))))))))))))))))))))))))))))))))))))))))))))))))))))))))))))))))))))))))))))))))))))))))), (leB_r rfl (leL_r (by first | rfl | (first | (rw [kids_take la m X j (by omega), kid, if_pos (by omega)]; simp) | (rw [kids_take la m X j (by omega), kid, if_neg (by omega)]; simp))) (leL_r (by first | rfl | (first | (rw [kids_take la m X j (by omega), kid, if_pos (by omega)]; simp) | (rw [kids_take la m X j (by omega), kid, if_neg (by omega)]; simp))) (leL_r (by first | rfl | (first | (rw [kids_take la m X j (by omega), kid, if_pos (by omega)]; simp) | (rw [kids_take la m X j (by omega), kid, if_neg (by omega)]; simp))) (leL_nil)))) (leB_r rfl (leL_r (by first | rfl | (first | (rw [kids_take la m X j (by omega), kid, if_pos (by omega)]; simp) | (rw [kids_take la m X j (by omega), kid, if_neg (by omega)]; simp))) (leL_r (by first | rfl | (first | (rw [kids_take la m X j (by omega), kid, if_pos (by omega)]; simp) | (rw [kids_take la m X j (by omega), kid, if_neg (by omega)]; simp))) (leL_r (by first | rfl | (first | (rw [kids_take la m X j (by omega), kid, if_pos (by omega)]; simp) | (rw [kids_take la m X j (by omega), kid, if_neg (by omega)]; simp))) (leL_nil)))) (leB_r rfl (by first | exact leL_self _ | exact leL_eq (by simp only [fcells_dem,fcells_frz])) (leB_nil _)))), (leV_r (by first | rfl | (first | (rw [kids_take la m X j (by omega), kid, if_pos (by omega)]; simp) | (rw [kids_take la m X j (by omega), kid, if_neg (by omega)]; simp))) (leV_nil _)), rfl, (bc3 rfl rfl (fcells_in _ _ _ _ _))⟩) ?_
            rintro j hJ
            have hkl := kids_length la m (X.take j)
            rw [List.length_take] at hkl
            refine aw_seq ?_
            refine aw_regK hX hb [0] rfl (σ' := ?s20) (fun K hK => ?h20) ?n20
            case h20 =>
              (refine st_op rfl (by simp (disch := omega) only [stepf,callOf,qop,fop,St.ev,St.put,cd,zd,Value.oneCell',tb_T,TypeDesc.aggB,getD_0,getD_s,Ze,Zd,Zc,Za,Zb,Zr,ZE,ZF,Zf,Zq,Zg,i64_w,Zt,Zs,qBin,iop,t3,ti3,t5,ti5,t22,ti22,t50,ti50,t58,ti58,t60,ti60,t63,ti63,Zh,map_at_l,map_at_i,map_at_n] <;> exact rfl) ?_)
              refine aops_nil ?_
              exact hK
            refine exq_n ?_
            refine aw_seq ?_
            refine aw_cond _ rfl (fun hc5 => ?_) (fun hc5 => ?_)
            · try simp only [Zp,Zi,ZK,ZJ,ne_eq,Zn,Zm,ZB,ZA,ZI,not_or,not_and,Zu] at hc5
              have hxj := hin _ (getD_mem X 0 j (by omega))
              refine aw_skip ?_
              refine exq_n ?_
              refine aw_seq ?_
              refine aw_block ?_
              refine aw_seq ?_
              refine aw_regK hX hb [0, 1, 2] rfl (σ' := ?s21) (fun K hK => ?h21) ?n21
              case h21 =>
                iterate 3 (refine st_op rfl (by simp (disch := omega) only [stepf,callOf,qop,fop,St.ev,St.put,cd,zd,Value.oneCell',tb_T,TypeDesc.aggB,getD_0,getD_s,Ze,Zd,Zc,Za,Zb,Zr,ZE,ZF,Zf,Zq,Zg,i64_w,Zt,Zs,Int.toNat_zero,Int.toNat_one,toNat_pred,toNat_succ,qIndexAddr,ZO,Nat.mul_one,ZC,Nat.zero_mul,Zh,Zl,Zo,Zv,Zw,Zj,Zk,Zx,Zy,qLoad,bload,pload,pureAll,D.pure?,ZD,t3,ti3,t87,ti87,map_at_l,map_at_i,map_at_n] <;> exact rfl) ?_)
                refine aops_nil ?_
                exact hK
              refine exq_n ?_
              refine aw_seq ?_
              refine aw_regK hX hb [0, 1, 2, 3, 4, 5] rfl (σ' := ?s22) (fun K hK => ?h22) ?n22
              case h22 =>
                iterate 6 (refine st_op rfl (by simp (disch := omega) only [stepf,callOf,qop,fop,St.ev,St.put,cd,zd,Value.oneCell',tb_T,TypeDesc.aggB,getD_0,getD_s,Ze,Zd,Zc,Za,Zb,Zr,ZE,ZF,Zf,Zq,Zg,i64_w,Zt,Zs,qBin,iop,tb_N,tbO_N,tbW_N,tb_O,fBuildSlice,catCells,D.cells?,D.pure?,range_1,range_2,range_3,range_4,range_5,ZG,ZH,ZL,ZM,ZN,Zl,Zo,sec8_length,Nat.reduceAdd,Nat.reduceMul,fAppend,appV,St.demote,D.demote,St.setVec,Zh,List.length_append,ZC,Nat.mul_one,reduceIte,t1,ti1,t2,ti2,t3,ti3,t5,ti5,t69,ti69,t71,ti71,t87,ti87,map_at_l,map_at_i,map_at_n] <;> exact rfl) ?_)
                refine aops_nil ?_
                exact hK
              refine exq_n ?_
              refine aw_seq ?_
              refine aw_regK hX hb [0, 1, 2, 3, 4, 5, 6, 7, 8, 9] rfl (σ' := ?s23) (fun K hK => ?h23) ?n23
              case h23 =>
                iterate 10 (refine st_op rfl (by simp (disch := omega) only [stepf,callOf,qop,fop,St.ev,St.put,cd,zd,Value.oneCell',tb_T,TypeDesc.aggB,getD_0,getD_s,Ze,Zd,Zc,Za,Zb,Zr,ZE,ZF,Zf,Zq,Zg,i64_w,Zt,Zs,qBin,iop,qFieldAddr,fieldOf,Zl,Zo,Zv,Zw,Zj,Zk,Zx,Zy,qLoad,bload,pload,pureAll,D.pure?,ZC,ZD,Int.toNat_zero,Int.toNat_one,toNat_pred,toNat_succ,qIndexAddr,ZO,Nat.mul_one,Nat.zero_mul,Zh,qLen,t1,ti1,t2,ti2,t3,ti3,t4,ti4,t5,ti5,t24,ti24,t26,ti26,t35,ti35,t40,ti40,t58,ti58,t60,ti60,t75,ti75,t77,ti77,t87,ti87,t88,ti88,t90,ti90,map_at_l,map_at_i,map_at_n] <;> exact rfl) ?_)
                refine aops_nil ?_
                exact hK
              refine exq_n ?_
              refine aw_cond _ rfl (fun hc6 => ?_) (fun hc6 => ?_)
              · try simp only [Zp,Zi,ZK,ZJ,ne_eq,Zn,Zm,ZB,ZA,ZI,not_or,not_and,Zu] at hc6
                refine aw_regK hX hb [0, 1, 2, 3, 4, 5, 6] rfl (σ' := ?s24) (fun K hK => ?h24) ?n24
                case h24 =>
                  iterate 7 (refine st_op rfl (by simp (disch := omega) only [stepf,callOf,qop,fop,St.ev,St.put,cd,zd,Value.oneCell',tb_T,TypeDesc.aggB,getD_0,getD_s,Ze,Zd,Zc,Za,Zb,Zr,ZE,ZF,Zf,Zq,Zg,i64_w,Zt,Zs,qBin,iop,tb_N,tbO_N,tbW_N,tb_O,fBuildSlice,catCells,D.cells?,D.pure?,range_1,range_2,range_3,range_4,range_5,ZG,ZH,ZL,ZM,ZN,Zl,Zo,sec8_length,Nat.reduceAdd,Nat.reduceMul,fAppend,appV,St.demote,D.demote,St.setVec,Zh,List.length_append,ZC,Nat.mul_one,reduceIte,t1,ti1,t2,ti2,t3,ti3,t5,ti5,t87,ti87,t88,ti88,map_at_l,map_at_i,map_at_n] <;> exact rfl) ?_)
                  refine aops_nil ?_
                  exact hK
                refine exb_n ?_
                refine exq_n ?_
                refine aw_regK hX hb [0, 1] rfl (σ' := ?s25) (fun K hK => ?h25) ?n25
                case h25 =>
                  iterate 2 (refine st_op rfl (by simp (disch := omega) only [stepf,callOf,qop,fop,St.ev,St.put,cd,zd,Value.oneCell',tb_T,TypeDesc.aggB,getD_0,getD_s,Ze,Zd,Zc,Za,Zb,Zr,ZE,ZF,Zf,Zq,Zg,i64_w,Zt,Zs,qBin,iop,t1,ti1,t3,ti3,Zh,map_at_l,map_at_i,map_at_n] <;> exact rfl) ?_)
                  refine aops_nil ?_
                  exact hK
                refine exq_n ?_
                exact ⟨j + 1, by (try dsimp only); omega, by (try dsimp only); omega, wk_le ⟨rfl, leL_a (leL_a (leL_r (by first | rfl | (first | (rw [kids_take la m X j (by omega), kid, if_pos (by omega)]; simp) | (rw [kids_take la m X j (by omega), kid, if_neg (by omega)]; simp))) (leL_r (by first | rfl | (first | (rw [kids_take la m X j (by omega), kid, if_pos (by omega)]; simp) | (rw [kids_take la m X j (by omega), kid, if_neg (by omega)]; simp))) (leL_a (leL_a (leL_a (leL_a (leL_a (leL_r (by first | rfl | (first | (rw [kids_take la m X j (by omega), kid, if_pos (by omega)]; simp) | (rw [kids_take la m X j (by omega), kid, if_neg (by omega)]; simp))) (leL_r (by first | rfl | (first | (rw [kids_take la m X j (by omega), kid, if_pos (by omega)]; simp) | (rw [kids_take la m X j (by omega), kid, if_neg (by omega)]; simp))) (leL_r (by first | rfl | (first | (rw [kids_take la m X j (by omega), kid, if_pos (by omega)]; simp) | (rw [kids_take la m X j (by omega), kid, if_neg (by omega)]; simp))) (leL_r (by first | rfl | (first | (rw [kids_take la m X j (by omega), kid, if_pos (by omega)]; simp) | (rw [kids_take la m X j (by omega), kid, if_neg (by omega)]; simp))) (leL_a (leL_a (leL_a (leL_a (leL_a (leL_a (leL_a (leL_a (leL_a (leL_a (leL_a (leL_a (leL_a (leL_a (leL_a (leL_a (leL_a (leL_a (leL_a (leL_a (leL_a (leL_a (leL_a (leL_a (leL_a (leL_a (leL_a (leL_a (leL_a (leL_a (leL_a (leL_a (leL_a (leL_a (leL_a (leL_a (leL_a (leL_a (leL_a (leL_a (leL_a (leL_a (leL_a (leL_a (leL_a (leL_a (leL_a (leL_a (leL_a (leL_r (by first | rfl | (first | (rw [kids_take la m X j (by omega), kid, if_pos (by omega)]; simp) | (rw [kids_take la m X j (by omega), kid, if_neg (by omega)]; simp))) (leL_r (by first | rfl | (first | (rw [kids_take la m X j (by omega), kid, if_pos (by omega)]; simp) | (rw [kids_take la m X j (by omega), kid, if_neg (by omega)]; simp))) (leL_r (by first | rfl | (first | (rw [kids_take la m X j (by omega), kid, if_pos (by omega)]; simp) | (rw [kids_take la m X j (by omega), kid, if_neg (by omega)]; simp))) (leL_a (leL_a (leL_a (leL_a (leL_a (leL_a (leL_a (leL_a (leL_a (leL_a (leL_a (leL_a (leL_a (leL_a (leL_a (leL_a (leL_a (leL_a (leL_a (leL_a (leL_a (leL_a (leL_a (leL_a (leL_a (leL_a (leL_a (leL_a (leL_a (leL_a (leL_a (leL_a (leL_a (leL_a (leL_a (leL_a (leL_a (leL_a (leL_a (leL_a (leL_a (leL_a (leL_a (leL_a (leL_a (leL_a (leL_a (leL_a (leL_a (leL_a (leL_a (leL_a (leL_a (leL_a (leL_a (leL_a (leL_a (leL_a (leL_a (leL_a (leL_a (leL_a (leL_a (leL_a (leL_a (leL_a (leL_a (leL_a (leL_a (leL_a (leL_a (leL_a (leL_a (leL_a (leL_a (leL_a (leL_a (leL_a (leL_a (leL_a (leL_a (leL_a (leL_a (leL_a (leL_a (leL_nil)))))))))))))))))))))))))))))))))))))))))))))))))))))))))))))))))))))))))))))))))))))))))))))))))))))))))))))))))))))))))))))))))))))))))))))))))))))), (leB_r rfl (leL_r (by first | rfl | (first | (rw [kids_take la m X j (by omega), kid, if_pos (by omega)]; simp) | (rw [kids_take la m X j (by omega), kid, if_neg (by omega)]; simp))) (leL_r (by first | rfl | (first | (rw [kids_take la m X j (by omega), kid, if_pos (by omega)]; simp) | (rw [kids_take la m X j (by omega), kid, if_neg (by omega)]; simp))) (leL_r (by first | rfl | (first | (rw [kids_take la m X j (by omega), kid, if_pos (by omega)]; simp) | (rw [kids_take la m X j (by omega), kid, if_neg (by omega)]; simp))) (leL_nil)))) (leB_r rfl (leL_r (by first | rfl | (first | (rw [kids_take la m X j (by omega), kid, if_pos (by omega)]; simp) | (rw [kids_take la m X j (by omega), kid, if_neg (by omega)]; simp))) (leL_r (by first | rfl | (first | (rw [kids_take la m X j (by omega), kid, if_pos (by omega)]; simp) | (rw [kids_take la m X j (by omega), kid, if_neg (by omega)]; simp))) (leL_r (by first | rfl | (first | (rw [kids_take la m X j (by omega), kid, if_pos (by omega)]; simp) | (rw [kids_take la m X j (by omega), kid, if_neg (by omega)]; simp))) (leL_nil)))) (leB_r rfl (by first | exact leL_self _ | exact leL_eq (by simp only [fcells_dem,fcells_frz])) (leB_nil _)))), (leV_r (by first | rfl | (first | (rw [kids_take la m X j (by omega), kid, if_pos (by omega)]; simp) | (rw [kids_take la m X j (by omega), kid, if_neg (by omega)]; simp))) (leV_nil _)), rfl, (bc3 rfl rfl (fcells_in _ _ _ _ _))⟩⟩
              · try simp only [Zp,Zi,ZK,ZJ,ne_eq,Zn,Zm,ZB,ZA,ZI,not_or,not_and,Zu] at hc6
                refine aw_skip ?_
                refine exb_n ?_
                refine exq_n ?_
                refine aw_regK hX hb [0, 1] rfl (σ' := ?s26) (fun K hK => ?h26) ?n26
                case h26 =>
                  iterate 2 (refine st_op rfl (by simp (disch := omega) only [stepf,callOf,qop,fop,St.ev,St.put,cd,zd,Value.oneCell',tb_T,TypeDesc.aggB,getD_0,getD_s,Ze,Zd,Zc,Za,Zb,Zr,ZE,ZF,Zf,Zq,Zg,i64_w,Zt,Zs,qBin,iop,t1,ti1,t3,ti3,Zh,map_at_l,map_at_i,map_at_n] <;> exact rfl) ?_)
                  refine aops_nil ?_
                  exact hK
                refine exq_n ?_
                exact ⟨j + 1, by (try dsimp only); omega, by (try dsimp only); omega, wk_le ⟨rfl, leL_a (leL_a (leL_r (by first | rfl | (first | (rw [kids_take la m X j (by omega), kid, if_pos (by omega)]; simp) | (rw [kids_take la m X j (by omega), kid, if_neg (by omega)]; simp))) (leL_r (by first | rfl | (first | (rw [kids_take la m X j (by omega), kid, if_pos (by omega)]; simp) | (rw [kids_take la m X j (by omega), kid, if_neg (by omega)]; simp))) (leL_a (leL_a (leL_a (leL_a (leL_a (leL_r (by first | rfl | (first | (rw [kids_take la m X j (by omega), kid, if_pos (by omega)]; simp) | (rw [kids_take la m X j (by omega), kid, if_neg (by omega)]; simp))) (leL_r (by first | rfl | (first | (rw [kids_take la m X j (by omega), kid, if_pos (by omega)]; simp) | (rw [kids_take la m X j (by omega), kid, if_neg (by omega)]; simp))) (leL_r (by first | rfl | (first | (rw [kids_take la m X j (by omega), kid, if_pos (by omega)]; simp) | (rw [kids_take la m X j (by omega), kid, if_neg (by omega)]; simp))) (leL_r (by first | rfl | (first | (rw [kids_take la m X j (by omega), kid, if_pos (by omega)]; simp) | (rw [kids_take la m X j (by omega), kid, if_neg (by omega)]; simp))) (leL_a (leL_a (leL_a (leL_a (leL_a (leL_a (leL_a (leL_a (leL_a (leL_a (leL_a (leL_a (leL_a (leL_a (leL_a (leL_a (leL_a (leL_a (leL_a (leL_a (leL_a (leL_a (leL_a (leL_a (leL_a (leL_a (leL_a (leL_a (leL_a (leL_a (leL_a (leL_a (leL_a (leL_a (leL_a (leL_a (leL_a (leL_a (leL_a (leL_a (leL_a (leL_a (leL_a (leL_a (leL_a (leL_a (leL_a (leL_a (leL_a (leL_r (by first | rfl | (first | (rw [kids_take la m X j (by omega), kid, if_pos (by omega)]; simp) | (rw [kids_take la m X j (by omega), kid, if_neg (by omega)]; simp))) (leL_r (by first | rfl | (first | (rw [kids_take la m X j (by omega), kid, if_pos (by omega)]; simp) | (rw [kids_take la m X j (by omega), kid, if_neg (by omega)]; simp))) (leL_r (by first | rfl | (first | (rw [kids_take la m X j (by omega), kid, if_pos (by omega)]; simp) | (rw [kids_take la m X j (by omega), kid, if_neg (by omega)]; simp))) (leL_a (leL_a (leL_a (leL_a (leL_a (leL_a (leL_a (leL_a (leL_a (leL_a (leL_a (leL_a (leL_a (leL_a (leL_a (leL_a (leL_a (leL_a (leL_a (leL_a (leL_a (leL_a (leL_a (leL_a (leL_a (leL_a (leL_a (leL_a (leL_a (leL_a (leL_a (leL_a (leL_a (leL_a (leL_a (leL_a (leL_a (leL_a (leL_a (leL_a (leL_a (leL_a (leL_a (leL_a (leL_a (leL_a (leL_a (leL_a (leL_a (leL_a (leL_a (leL_a (leL_a (leL_a (leL_a (leL_a (leL_a (leL_a (leL_a (leL_a (leL_a (leL_a (leL_a (leL_a (leL_a (leL_a (leL_a (leL_a (leL_a (leL_a (leL_a (leL_a (leL_a (leL_a (leL_a (leL_a (leL_a (leL_a (leL_a (leL_a (leL_a (leL_a (leL_a (leL_a (leL_a (leL_nil)))))))))))))))))))))))))))))))))))))))))))))))))))))))))))))))))))))))))))))))))))))))))))))))))))))))))))))))))))))))))))))))))))))))))))))))))))))), (leB_r rfl (leL_r (by first | rfl | (first | (rw [kids_take la m X j (by omega), kid, if_pos (by omega)]; simp) | (rw [kids_take la m X j (by omega), kid, if_neg (by omega)]; simp))) (leL_r (by first | rfl | (first | (rw [kids_take la m X j (by omega), kid, if_pos (by omega)]; simp) | (rw [kids_take la m X j (by omega), kid, if_neg (by omega)]; simp))) (leL_r (by first | rfl | (first | (rw [kids_take la m X j (by omega), kid, if_pos (by omega)]; simp) | (rw [kids_take la m X j (by omega), kid, if_neg (by omega)]; simp))) (leL_nil)))) (leB_r rfl (leL_r (by first | rfl | (first | (rw [kids_take la m X j (by omega), kid, if_pos (by omega)]; simp) | (rw [kids_take la m X j (by omega), kid, if_neg (by omega)]; simp))) (leL_r (by first | rfl | (first | (rw [kids_take la m X j (by omega), kid, if_pos (by omega)]; simp) | (rw [kids_take la m X j (by omega), kid, if_neg (by omega)]; simp))) (leL_r (by first | rfl | (first | (rw [kids_take la m X j (by omega), kid, if_pos (by omega)]; simp) | (rw [kids_take la m X j (by omega), kid, if_neg (by omega)]; simp))) (leL_nil)))) (leB_r rfl (by first | exact leL_self _ | exact leL_eq (by simp only [fcells_dem,fcells_frz])) (leB_nil _)))), (leV_r (by first | rfl | (first | (rw [kids_take la m X j (by omega), kid, if_pos (by omega)]; simp) | (rw [kids_take la m X j (by omega), kid, if_neg (by omega)]; simp))) (leV_nil _)), rfl, (bc3 rfl rfl (fcells_in _ _ _ _ _))⟩⟩
            · try simp only [Zp,Zi,ZK,ZJ,ne_eq,Zn,Zm,ZB,ZA,ZI,not_or,not_and,Zu] at hc5
              refine aw_exit ?_
              refine exq_e ?_
              refine exq_e ?_
              refine exb_h ?_
              refine exj_n (wk_frz 0 rfl (σ1 := ?s27) ?h27 ?n27)
              case h27 => simp only [St.freeze,D.freeze,ZG,ZH,Za,Zb,Zr,reduceIte,Nat.reduceEqDiff]; exact rfl
              exact wk_le ⟨rfl, leL_a (leL_a (leL_r (by first | rfl | (first | (rw [visL, if_pos (by omega), Nat.add_sub_cancel, show X.take j = X from List.take_of_length_le (by omega)]) | (rw [visL, if_neg (by omega)]; rfl))) (leL_r (by first | rfl | (first | (rw [visL, if_pos (by omega), Nat.add_sub_cancel, show X.take j = X from List.take_of_length_le (by omega)]) | (rw [visL, if_neg (by omega)]; rfl))) (leL_a (leL_a (leL_a (leL_a (leL_a (leL_r (by first | rfl | (first | (rw [visL, if_pos (by omega), Nat.add_sub_cancel, show X.take j = X from List.take_of_length_le (by omega)]) | (rw [visL, if_neg (by omega)]; rfl))) (leL_r (by first | rfl | (first | (rw [visL, if_pos (by omega), Nat.add_sub_cancel, show X.take j = X from List.take_of_length_le (by omega)]) | (rw [visL, if_neg (by omega)]; rfl))) (leL_r (by first | rfl | (first | (rw [visL, if_pos (by omega), Nat.add_sub_cancel, show X.take j = X from List.take_of_length_le (by omega)]) | (rw [visL, if_neg (by omega)]; rfl))) (leL_r (by first | rfl | (first | (rw [visL, if_pos (by omega), Nat.add_sub_cancel, show X.take j = X from List.take_of_length_le (by omega)]) | (rw [visL, if_neg (by omega)]; rfl))) (leL_a (leL_a (leL_a (leL_a (leL_a (leL_a (leL_a (leL_a (leL_a (leL_a (leL_a (leL_a (leL_a (leL_a (leL_a (leL_a (leL_a (leL_a (leL_a (leL_a (leL_a (leL_a (leL_a (leL_a (leL_a (leL_a (leL_a (leL_a (leL_a (leL_a (leL_a (leL_a (leL_a (leL_a (leL_a (leL_a (leL_a (leL_a (leL_a (leL_a (leL_a (leL_a (leL_a (leL_a (leL_a (leL_a (leL_a (leL_a (leL_a (leL_a (leL_a (leL_a (leL_a (leL_a (leL_a (leL_a (leL_a (leL_a (leL_a (leL_a (leL_a (leL_a (leL_a (leL_a (leL_a (leL_a (leL_a (leL_a (leL_a (leL_a (leL_a (leL_a (leL_a (leL_a (leL_a (leL_a (leL_a (leL_a (leL_a (leL_a (leL_a (leL_a (leL_a (leL_a (leL_a (leL_a (leL_a (leL_a (leL_a (leL_a (leL_a (leL_a (leL_a (leL_a (leL_a (leL_a (leL_a (leL_a (leL_a (leL_a (leL_a (leL_a (leL_a (leL_a (leL_a (leL_a (leL_a (leL_a (leL_a (leL_a (leL_a (leL_a (leL_a (leL_a (leL_a (leL_a (leL_a (leL_a (leL_a (leL_a (leL_a (leL_a (leL_a (leL_a (leL_a (leL_a (leL_a (leL_a (leL_a (leL_a (leL_a (leL_a (leL_a (leL_a (leL_a (leL_a (leL_a (leL_nil)))))))))))))))))))))))))))))))))))))))))))))))))))))))))))))))))))))))))))))))))))))))))))))))))))))))))))))))))))))))))))))))))))))))))))))))))))))), (leB_r rfl (leL_r (by first | rfl | (first | (rw [visL, if_pos (by omega), Nat.add_sub_cancel, show X.take j = X from List.take_of_length_le (by omega)]) | (rw [visL, if_neg (by omega)]; rfl))) (leL_r (by first | rfl | (first | (rw [visL, if_pos (by omega), Nat.add_sub_cancel, show X.take j = X from List.take_of_length_le (by omega)]) | (rw [visL, if_neg (by omega)]; rfl))) (leL_r (by first | rfl | (first | (rw [visL, if_pos (by omega), Nat.add_sub_cancel, show X.take j = X from List.take_of_length_le (by omega)]) | (rw [visL, if_neg (by omega)]; rfl))) (leL_nil)))) (leB_r rfl (leL_r (by first | rfl | (first | (rw [visL, if_pos (by omega), Nat.add_sub_cancel, show X.take j = X from List.take_of_length_le (by omega)]) | (rw [visL, if_neg (by omega)]; rfl))) (leL_r (by first | rfl | (first | (rw [visL, if_pos (by omega), Nat.add_sub_cancel, show X.take j = X from List.take_of_length_le (by omega)]) | (rw [visL, if_neg (by omega)]; rfl))) (leL_r (by first | rfl | (first | (rw [visL, if_pos (by omega), Nat.add_sub_cancel, show X.take j = X from List.take_of_length_le (by omega)]) | (rw [visL, if_neg (by omega)]; rfl))) (leL_nil)))) (leB_r rfl (by first | exact leL_self _ | exact leL_eq (by simp only [fcells_dem,fcells_frz])) (leB_nil _)))), (leV_nil _), rfl, (bc3 rfl rfl (fcells_in _ _ _ _ _))⟩
          · try simp only [Zp,Zi,ZK,ZJ,ne_eq,Zn,Zm,ZB,ZA,ZI,not_or,not_and,Zu] at hc4
            refine aw_skip ?_
            exact exj_n (wk_le ⟨rfl, leL_a (leL_a (leL_r (by first | rfl | (first | (rw [visL, if_pos (by omega), Nat.add_sub_cancel, show X.take j = X from List.take_of_length_le (by omega)]) | (rw [visL, if_neg (by omega)]; rfl))) (leL_r (by first | rfl | (first | (rw [visL, if_pos (by omega), Nat.add_sub_cancel, show X.take j = X from List.take_of_length_le (by omega)]) | (rw [visL, if_neg (by omega)]; rfl))) (leL_a (leL_a (leL_a (leL_a (leL_a (leL_r (by first | rfl | (first | (rw [visL, if_pos (by omega), Nat.add_sub_cancel, show X.take j = X from List.take_of_length_le (by omega)]) | (rw [visL, if_neg (by omega)]; rfl))) (leL_r (by first | rfl | (first | (rw [visL, if_pos (by omega), Nat.add_sub_cancel, show X.take j = X from List.take_of_length_le (by omega)]) | (rw [visL, if_neg (by omega)]; rfl))) (leL_r (by first | rfl | (first | (rw [visL, if_pos (by omega), Nat.add_sub_cancel, show X.take j = X from List.take_of_length_le (by omega)]) | (rw [visL, if_neg (by omega)]; rfl))) (leL_r (by first | rfl | (first | (rw [visL, if_pos (by omega), Nat.add_sub_cancel, show X.take j = X from List.take_of_length_le (by omega)]) | (rw [visL, if_neg (by omega)]; rfl))) (leL_a (leL_a (leL_a (leL_a (leL_a (leL_a (leL_a (leL_a (leL_a (leL_a (leL_a (leL_a (leL_a (leL_a (leL_a (leL_a (leL_a (leL_a (leL_a (leL_a (leL_a (leL_a (leL_a (leL_a (leL_a (leL_a (leL_a (leL_a (leL_a (leL_a (leL_a (leL_a (leL_a (leL_a (leL_a (leL_a (leL_a (leL_a (leL_a (leL_a (leL_a (leL_a (leL_a (leL_a (leL_a (leL_a (leL_a (leL_a (leL_a (leL_a (leL_a (leL_a (leL_a (leL_a (leL_a (leL_a (leL_a (leL_a (leL_a (leL_a (leL_a (leL_a (leL_a (leL_a (leL_a (leL_a (leL_a (leL_a (leL_a (leL_a (leL_a (leL_a (leL_a (leL_a (leL_a (leL_a (leL_a (leL_a (leL_a (leL_a (leL_a (leL_a (leL_a (leL_a (leL_a (leL_a (leL_a (leL_a (leL_a (leL_a (leL_a (leL_a (leL_a (leL_a (leL_a (leL_a (leL_a (leL_a (leL_a (leL_a (leL_a (leL_a (leL_a (leL_a (leL_a (leL_a (leL_a (leL_a (leL_a (leL_a (leL_a (leL_a (leL_a (leL_a (leL_a (leL_a (leL_a (leL_a (leL_a (leL_a (leL_a (leL_a (leL_a (leL_a (leL_a (leL_a (leL_a (leL_a (leL_a (leL_a (leL_a (leL_a (leL_a (leL_a (leL_a (leL_a (leL_a (leL_nil)))))))))))))))))))))))))))))))))))))))))))))))))))))))))))))))))))))))))))))))))))))))))))))))))))))))))))))))))))))))))))))))))))))))))))))))))))))), (leB_r rfl (leL_r (by first | rfl | (first | (rw [visL, if_pos (by omega), Nat.add_sub_cancel, show X.take j = X from List.take_of_length_le (by omega)]) | (rw [visL, if_neg (by omega)]; rfl))) (leL_r (by first | rfl | (first | (rw [visL, if_pos (by omega), Nat.add_sub_cancel, show X.take j = X from List.take_of_length_le (by omega)]) | (rw [visL, if_neg (by omega)]; rfl))) (leL_r (by first | rfl | (first | (rw [visL, if_pos (by omega), Nat.add_sub_cancel, show X.take j = X from List.take_of_length_le (by omega)]) | (rw [visL, if_neg (by omega)]; rfl))) (leL_nil)))) (leB_r rfl (leL_r (by first | rfl | (first | (rw [visL, if_pos (by omega), Nat.add_sub_cancel, show X.take j = X from List.take_of_length_le (by omega)]) | (rw [visL, if_neg (by omega)]; rfl))) (leL_r (by first | rfl | (first | (rw [visL, if_pos (by omega), Nat.add_sub_cancel, show X.take j = X from List.take_of_length_le (by omega)]) | (rw [visL, if_neg (by omega)]; rfl))) (leL_r (by first | rfl | (first | (rw [visL, if_pos (by omega), Nat.add_sub_cancel, show X.take j = X from List.take_of_length_le (by omega)]) | (rw [visL, if_neg (by omega)]; rfl))) (leL_nil)))) (leB_r rfl (by first | exact leL_self _ | exact leL_eq (by simp only [fcells_dem,fcells_frz])) (leB_nil _)))), (leV_nil _), rfl, (bc3 rfl rfl (fcells_in _ _ _ _ _))⟩)
        refine exq_n ?_
        refine aw_seq ?_
        refine aw_regK hX hb [0, 1, 2] rfl (σ' := ?s28) (fun K hK => ?h28) ?n28
        case h28 =>
          iterate 3 (refine st_op rfl (by simp (disch := omega) only [stepf,callOf,qop,fop,St.ev,St.put,cd,zd,Value.oneCell',tb_T,TypeDesc.aggB,getD_0,getD_s,Ze,Zd,Zc,Za,Zb,Zr,ZE,ZF,Zf,Zq,Zg,i64_w,Zt,Zs,qLen,t3,ti3,t5,ti5,t87,ti87,t88,ti88,t90,ti90,Zh,map_at_l,map_at_i,map_at_n] <;> exact rfl) ?_)
          refine aops_nil ?_
          exact hK
        refine exq_n ?_
        have hfn := fcells_nil (la.length - 1) (m + 1) X m (by omega) (by omega)
        refine aw_nilc 2 m ⟨126, fcells (la.length - 1) (m + 1) X⟩ 3 1 rfl hfn (σ' := ?s80) ?h80 ?n80
        case h80 => simp only [St.nilCell,St.addVec,Za,Zb,Zl,Zo,ZL,ZM]; exact rfl
        refine aw_block ?_
        refine aw_loop (ι := Nat) (fun j => j ≤ (visL la (la.length - 1) (m + 1) X).length) (fun j => ⟨[], [.any, .any, .ptr 0 0, .ptr 1 0, .any, .any, .any, .any, .any, .ptr 2 0, .p (i64 ((la.length - 1) : Nat)), .p (i64 (m : Int)), .any, .any, .any, .any, .any, .any, .any, .any, .any, .any, .any, .any, .any, .any, .any, .any, .any, .any, .any, .any, .any, .any, .any, .any, .any, .any, .any, .any, .any, .any, .any, .any, .any, .any, .any, .any, .any, .any, .any, .any, .any, .any, .any, .any, .any, .any, .any, .any, .any, .any, .any, .any, .any, .any, .any, .any, .any, .any, .any, .any, .any, .any, .any, .any, .any, .any, .any, .any, .any, .any, .any, .any, .any, .any, .any, .any, .any, .any, .p (natP (visL la (la.length - 1) (m + 1) X)), .p (i64 (visL la (la.length - 1) (m + 1) X).length), .p (i64 j), .any, .any, .any, .any, .any, .any, .any, .any, .any, .any, .any, .any, .any, .any, .any, .any, .any, .any, .any, .any, .any, .any, .any, .any, .any, .any, .any, .any, .any, .any, .any, .any, .any, .any, .any, .any, .any, .any, .any, .any, .any, .any, .any, .any, .any, .any, .any, .any, .any, .any, .any, .any, .any, .any, .any, .any, .any], [⟨26, [.p (i64 (S : Int)), .p (i64 (F : Int)), .p (lvls la)]⟩, ⟨26, [.p (i64 (S : Int)), .p (i64 (F : Int)), .p (lvls lb)]⟩, ⟨126, ((fcells (la.length - 1) (m + 1) X).set m (.vref 0))⟩], [some ⟨3, 1, (((visL la (la.length - 1) (m + 1) X).take j).filter (differs la lb m)).length, (((visL la (la.length - 1) (m + 1) X).take j).filter (differs la lb m)).map fun n : Nat => i64 (n : Int)⟩]⟩) (fun j => (visL la (la.length - 1) (m + 1) X).length - j) 0 (by exact Nat.zero_le _) (wk_le ⟨rfl, leL_a (leL_a (leL_r (by first | rfl | (first | (rw [filter_take _ _ j (by omega), hdf]; simp))) (leL_r (by first | rfl | (first | (rw [filter_take _ _ j (by omega), hdf]; simp))) (leL_a (leL_a (leL_a (leL_a (leL_a (leL_r (by first | rfl | (first | (rw [filter_take _ _ j (by omega), hdf]; simp))) (leL_r (by first | rfl | (first | (rw [filter_take _ _ j (by omega), hdf]; simp))) (leL_r (by first | rfl | (first | (rw [filter_take _ _ j (by omega), hdf]; simp))) (leL_a (leL_a (leL_a (leL_a (leL_a (leL_a (leL_a (leL_a (leL_a (leL_a (leL_a (leL_a (leL_a (leL_a (leL_a (leL_a (leL_a (leL_a (leL_a (leL_a (leL_a (leL_a (leL_a (leL_a (leL_a (leL_a (leL_a (leL_a (leL_a (leL_a (leL_a (leL_a (leL_a (leL_a (leL_a (leL_a (leL_a (leL_a (leL_a (leL_a (leL_a (leL_a (leL_a (leL_a (leL_a (leL_a (leL_a (leL_a (leL_a (leL_a (leL_a (leL_a (leL_a (leL_a (leL_a (leL_a (leL_a (leL_a (leL_a (leL_a (leL_a (leL_a (leL_a (leL_a (leL_a (leL_a (leL_a (leL_a (leL_a (leL_a (leL_a (leL_a (leL_a (leL_a (leL_a (leL_a (leL_a (leL_a (leL_r (by first | rfl | (first | (rw [filter_take _ _ j (by omega), hdf]; simp))) (leL_r (by first | rfl | (first | (rw [filter_take _ _ j (by omega), hdf]; simp))) (leL_r (by first | rfl | (first | (rw [filter_take _ _ j (by omega), hdf]; simp))) (leL_a (leL_a (leL_a (leL_a (leL_a (leL_a (leL_a (leL_a (leL_a (leL_a (leL_a (leL_a (leL_a (leL_a (leL_a (leL_a (leL_a (leL_a (leL_a (leL_a (leL_a (leL_a (leL_a (leL_a (leL_a (leL_a (leL_a (leL_a (leL_a (leL_a (leL_a (leL_a (leL_a (leL_a (leL_a (leL_a (leL_a (leL_a (leL_a (leL_a (leL_a (leL_a (leL_a (leL_a (leL_a (leL_a (leL_a (leL_a (leL_a (leL_a (leL_a (leL_a (leL_a (leL_a (leL_a (leL_a (leL_a (leL_nil)))))))))))))))))))))))))))))))))))))))))))))))))))))))))))))))))))))))))))))))))))))))))))))))))))))))))))))))))))))))))))))))))))))))))))))))))))))), (leB_r rfl (leL_r (by first | rfl | (first | (rw [filter_take _ _ j (by omega), hdf]; simp))) (leL_r (by first | rfl | (first | (rw [filter_take _ _ j (by omega), hdf]; simp))) (leL_r (by first | rfl | (first | (rw [filter_take _ _ j (by omega), hdf]; simp))) (leL_nil)))) (leB_r rfl (leL_r (by first | rfl | (first | (rw [filter_take _ _ j (by omega), hdf]; simp))) (leL_r (by first | rfl | (first | (rw [filter_take _ _ j (by omega), hdf]; simp))) (leL_r (by first | rfl | (first | (rw [filter_take _ _ j (by omega), hdf]; simp))) (leL_nil)))) (leB_r rfl (by first | exact leL_self _ | exact leL_eq (fc_again _ _ _ m (by omega) _)) (leB_nil _)))), (leV_r (by first | rfl | (first | (rw [filter_take _ _ j (by omega), hdf]; simp))) (leV_nil _)), rfl, (bc3 rfl rfl (fcset_in _ _ _ _ _ _ (Nat.succ_pos _)))⟩) ?_
        rintro j hJ
        have hfl := List.length_filter_le (differs la lb m) ((visL la (la.length - 1) (m + 1) X).take j)
        rw [List.length_take] at hfl
        have hfc := fcells_length (la.length - 1) (m + 1) X
        have hfd : ((((fcells (la.length - 1) (m + 1) X).set m (.vref 0))).map (D.demote 0)).length = 16 := by rw [List.length_map, List.length_set, hfc]
        have hfs : (((fcells (la.length - 1) (m + 1) X).set m (.vref 0))).length = 16 := by rw [List.length_set, hfc]
        refine aw_seq ?_
        refine aw_regK hX hb [0] rfl (σ' := ?s29) (fun K hK => ?h29) ?n29
        case h29 =>
          (refine st_op rfl (by simp (disch := omega) only [stepf,callOf,qop,fop,St.ev,St.put,cd,zd,Value.oneCell',tb_T,TypeDesc.aggB,getD_0,getD_s,Ze,Zd,Zc,Za,Zb,Zr,ZE,ZF,Zf,Zq,Zg,i64_w,Zt,Zs,qBin,iop,t3,ti3,Zh,map_at_l,map_at_i,map_at_n] <;> exact rfl) ?_)
          refine aops_nil ?_
          exact hK
        refine exq_n ?_
        refine aw_seq ?_
        refine aw_cond _ rfl (fun hc7 => ?_) (fun hc7 => ?_)
        · try simp only [Zp,Zi,ZK,ZJ,ne_eq,Zn,Zm,ZB,ZA,ZI,not_or,not_and,Zu] at hc7
          have hxj := hv1 _ (getD_mem (visL la (la.length - 1) (m + 1) X) 0 j (by omega))
          refine aw_skip ?_
          refine exq_n ?_
          refine aw_seq ?_
          refine aw_block ?_
          refine aw_seq ?_
          refine aw_regK hX hb [0, 1, 2] rfl (σ' := ?s30) (fun K hK => ?h30) ?n30
          case h30 =>
            iterate 3 (refine st_op rfl (by simp (disch := omega) only [stepf,callOf,qop,fop,St.ev,St.put,cd,zd,Value.oneCell',tb_T,TypeDesc.aggB,getD_0,getD_s,Ze,Zd,Zc,Za,Zb,Zr,ZE,ZF,Zf,Zq,Zg,i64_w,Zt,Zs,Int.toNat_zero,Int.toNat_one,toNat_pred,toNat_succ,qIndexAddr,ZO,Nat.mul_one,ZC,Nat.zero_mul,Zh,Zl,Zo,Zv,Zw,Zj,Zk,Zx,Zy,qLoad,bload,pload,pureAll,D.pure?,ZD,t3,ti3,t5,ti5,t87,ti87,t88,ti88,t90,ti90,map_at_l,map_at_i,map_at_n] <;> exact rfl) ?_)
            refine aops_nil ?_
            exact hK
          refine exq_n ?_
          refine aw_seq ?_
          refine aw_regD hX hb (try_mixed hP) [(0, true), (1, true), (2, true), (3, true), (4, true), (5, true), (6, true), (7, true), (8, true), (9, true), (10, true), (11, true), (12, true), (13, true), (14, true), (15, true), (16, true)] (by kernel_rfl) (σ' := ?s31) (fun K hK => ?h31) ?n31
          case h31 =>
            iterate 17 (refine sd_q rfl (by simp (disch := omega) only [qop,fop,St.ev,St.put,cd,zd,Value.oneCell',tb_T,TypeDesc.aggB,getD_0,getD_s,Ze,Zd,Zc,Za,Zb,Zr,ZE,ZF,Zf,Zq,Zg,i64_w,Zt,Zs,qFieldAddr,fieldOf,Zl,Zo,Zv,Zw,Zj,Zk,Zx,Zy,qLoad,bload,pload,pureAll,D.pure?,ZC,ZD,Int.toNat_zero,Int.toNat_one,toNat_pred,toNat_succ,qIndexAddr,ZO,Nat.mul_one,Nat.zero_mul,Zh,qBin,iop,t2,ti2,t3,ti3,t24,ti24,t26,ti26,t58,ti58,t60,ti60,t101,ti101,map_at_l,map_at_i,map_at_n] <;> exact rfl) (by simp only [St.put,Za,Zb] <;> exact rfl) ?_)
            refine aopsd_nil ?_
            exact hK
          refine exq_n ?_
          refine aw_cond _ rfl (fun hc8 => ?_) (fun hc8 => ?_)
          · try simp only [Zp,Zi,ZK,ZJ,ne_eq,Zn,Zm,ZB,ZA,ZI,not_or,not_and,Zu] at hc8
            have hdf : differs la lb m ((visL la (la.length - 1) (m + 1) X).getD j 0) = true := decide_eq_true hc8
            refine aw_regK hX hb [0, 1, 2, 3, 4, 5, 6, 7, 8] rfl (σ' := ?s32) (fun K hK => ?h32) ?n32
            case h32 =>
              iterate 9 (refine st_op rfl (by simp (disch := omega) only [stepf,callOf,qop,fop,St.ev,St.put,cd,zd,Value.oneCell',tb_T,TypeDesc.aggB,getD_0,getD_s,Ze,Zd,Zc,Za,Zb,Zr,ZE,ZF,Zf,Zq,Zg,i64_w,Zt,Zs,Int.toNat_zero,Int.toNat_one,toNat_pred,toNat_succ,qIndexAddr,ZO,Nat.mul_one,ZC,Nat.zero_mul,Zh,Zl,Zo,Zv,Zw,Zj,Zk,Zx,Zy,qLoad,bload,pload,pureAll,D.pure?,ZD,tb_N,tbO_N,tbW_N,tb_O,fBuildSlice,catCells,D.cells?,range_1,range_2,range_3,range_4,range_5,ZG,ZH,ZL,ZM,ZN,sec8_length,Nat.reduceAdd,Nat.reduceMul,fAppend,appV,St.demote,D.demote,St.setVec,List.length_append,reduceIte,fStore,D.boxCells,D.live,t1,ti1,t3,ti3,t87,ti87,t115,ti115,t117,ti117,t118,ti118,t126,ti126,map_at_l,map_at_i,map_at_n,set_at] <;> exact rfl) ?_)
              refine aops_nil ?_
              exact hK
            refine exb_n ?_
            refine exq_n ?_
            refine aw_regK hX hb [0, 1] rfl (σ' := ?s33) (fun K hK => ?h33) ?n33
            case h33 =>
              iterate 2 (refine st_op rfl (by simp (disch := omega) only [stepf,callOf,qop,fop,St.ev,St.put,cd,zd,Value.oneCell',tb_T,TypeDesc.aggB,getD_0,getD_s,Ze,Zd,Zc,Za,Zb,Zr,ZE,ZF,Zf,Zq,Zg,i64_w,Zt,Zs,qBin,iop,t1,ti1,t3,ti3,Zh,map_at_l,map_at_i,map_at_n] <;> exact rfl) ?_)
              refine aops_nil ?_
              exact hK
            refine exq_n ?_
            exact ⟨j + 1, by (try dsimp only); omega, by (try dsimp only); omega, wk_le ⟨rfl, leL_a (leL_a (leL_r (by first | rfl | (first | (rw [filter_take _ _ j (by omega), hdf]; simp))) (leL_r (by first | rfl | (first | (rw [filter_take _ _ j (by omega), hdf]; simp))) (leL_a (leL_a (leL_a (leL_a (leL_a (leL_r (by first | rfl | (first | (rw [filter_take _ _ j (by omega), hdf]; simp))) (leL_r (by first | rfl | (first | (rw [filter_take _ _ j (by omega), hdf]; simp))) (leL_r (by first | rfl | (first | (rw [filter_take _ _ j (by omega), hdf]; simp))) (leL_a (leL_a (leL_a (leL_a (leL_a (leL_a (leL_a (leL_a (leL_a (leL_a (leL_a (leL_a (leL_a (leL_a (leL_a (leL_a (leL_a (leL_a (leL_a (leL_a (leL_a (leL_a (leL_a (leL_a (leL_a (leL_a (leL_a (leL_a (leL_a (leL_a (leL_a (leL_a (leL_a (leL_a (leL_a (leL_a (leL_a (leL_a (leL_a (leL_a (leL_a (leL_a (leL_a (leL_a (leL_a (leL_a (leL_a (leL_a (leL_a (leL_a (leL_a (leL_a (leL_a (leL_a (leL_a (leL_a (leL_a (leL_a (leL_a (leL_a (leL_a (leL_a (leL_a (leL_a (leL_a (leL_a (leL_a (leL_a (leL_a (leL_a (leL_a (leL_a (leL_a (leL_a (leL_a (leL_a (leL_a (leL_a (leL_r (by first | rfl | (first | (rw [filter_take _ _ j (by omega), hdf]; simp))) (leL_r (by first | rfl | (first | (rw [filter_take _ _ j (by omega), hdf]; simp))) (leL_r (by first | rfl | (first | (rw [filter_take _ _ j (by omega), hdf]; simp))) (leL_a (leL_a (leL_a (leL_a (leL_a (leL_a (leL_a (leL_a (leL_a (leL_a (leL_a (leL_a (leL_a (leL_a (leL_a (leL_a (leL_a (leL_a (leL_a (leL_a (leL_a (leL_a (leL_a (leL_a (leL_a (leL_a (leL_a (leL_a (leL_a (leL_a (leL_a (leL_a (leL_a (leL_a (leL_a (leL_a (leL_a (leL_a (leL_a (leL_a (leL_a (leL_a (leL_a (leL_a (leL_a (leL_a (leL_a (leL_a (leL_a (leL_a (leL_a (leL_a (leL_a (leL_a (leL_a (leL_a (leL_a (leL_nil)))))))))))))))))))))))))))))))))))))))))))))))))))))))))))))))))))))))))))))))))))))))))))))))))))))))))))))))))))))))))))))))))))))))))))))))))))))), (leB_r rfl (leL_r (by first | rfl | (first | (rw [filter_take _ _ j (by omega), hdf]; simp))) (leL_r (by first | rfl | (first | (rw [filter_take _ _ j (by omega), hdf]; simp))) (leL_r (by first | rfl | (first | (rw [filter_take _ _ j (by omega), hdf]; simp))) (leL_nil)))) (leB_r rfl (leL_r (by first | rfl | (first | (rw [filter_take _ _ j (by omega), hdf]; simp))) (leL_r (by first | rfl | (first | (rw [filter_take _ _ j (by omega), hdf]; simp))) (leL_r (by first | rfl | (first | (rw [filter_take _ _ j (by omega), hdf]; simp))) (leL_nil)))) (leB_r rfl (by first | exact leL_self _ | exact leL_eq (fc_again _ _ _ m (by omega) _)) (leB_nil _)))), (leV_r (by first | rfl | (first | (rw [filter_take _ _ j (by omega), hdf]; simp))) (leV_nil _)), rfl, (bc3 rfl rfl (fcset_in _ _ _ _ _ _ (Nat.succ_pos _)))⟩⟩
          · try simp only [Zp,Zi,ZK,ZJ,ne_eq,Zn,Zm,ZB,ZA,ZI,not_or,not_and,Zu] at hc8
            have hdf : differs la lb m ((visL la (la.length - 1) (m + 1) X).getD j 0) = false := decide_eq_false (not_not_intro hc8)
            refine aw_skip ?_
            refine exb_n ?_
            refine exq_n ?_
            refine aw_regK hX hb [0, 1] rfl (σ' := ?s34) (fun K hK => ?h34) ?n34
            case h34 =>
              iterate 2 (refine st_op rfl (by simp (disch := omega) only [stepf,callOf,qop,fop,St.ev,St.put,cd,zd,Value.oneCell',tb_T,TypeDesc.aggB,getD_0,getD_s,Ze,Zd,Zc,Za,Zb,Zr,ZE,ZF,Zf,Zq,Zg,i64_w,Zt,Zs,qBin,iop,t1,ti1,t3,ti3,Zh,map_at_l,map_at_i,map_at_n] <;> exact rfl) ?_)
              refine aops_nil ?_
              exact hK
            refine exq_n ?_
            exact ⟨j + 1, by (try dsimp only); omega, by (try dsimp only); omega, wk_le ⟨rfl, leL_a (leL_a (leL_r (by first | rfl | (first | (rw [filter_take _ _ j (by omega), hdf]; simp))) (leL_r (by first | rfl | (first | (rw [filter_take _ _ j (by omega), hdf]; simp))) (leL_a (leL_a (leL_a (leL_a (leL_a (leL_r (by first | rfl | (first | (rw [filter_take _ _ j (by omega), hdf]; simp))) (leL_r (by first | rfl | (first | (rw [filter_take _ _ j (by omega), hdf]; simp))) (leL_r (by first | rfl | (first | (rw [filter_take _ _ j (by omega), hdf]; simp))) (leL_a (leL_a (leL_a (leL_a (leL_a (leL_a (leL_a (leL_a (leL_a (leL_a (leL_a (leL_a (leL_a (leL_a (leL_a (leL_a (leL_a (leL_a (leL_a (leL_a (leL_a (leL_a (leL_a (leL_a (leL_a (leL_a (leL_a (leL_a (leL_a (leL_a (leL_a (leL_a (leL_a (leL_a (leL_a (leL_a (leL_a (leL_a (leL_a (leL_a (leL_a (leL_a (leL_a (leL_a (leL_a (leL_a (leL_a (leL_a (leL_a (leL_a (leL_a (leL_a (leL_a (leL_a (leL_a (leL_a (leL_a (leL_a (leL_a (leL_a (leL_a (leL_a (leL_a (leL_a (leL_a (leL_a (leL_a (leL_a (leL_a (leL_a (leL_a (leL_a (leL_a (leL_a (leL_a (leL_a (leL_a (leL_a (leL_r (by first | rfl | (first | (rw [filter_take _ _ j (by omega), hdf]; simp))) (leL_r (by first | rfl | (first | (rw [filter_take _ _ j (by omega), hdf]; simp))) (leL_r (by first | rfl | (first | (rw [filter_take _ _ j (by omega), hdf]; simp))) (leL_a (leL_a (leL_a (leL_a (leL_a (leL_a (leL_a (leL_a (leL_a (leL_a (leL_a (leL_a (leL_a (leL_a (leL_a (leL_a (leL_a (leL_a (leL_a (leL_a (leL_a (leL_a (leL_a (leL_a (leL_a (leL_a (leL_a (leL_a (leL_a (leL_a (leL_a (leL_a (leL_a (leL_a (leL_a (leL_a (leL_a (leL_a (leL_a (leL_a (leL_a (leL_a (leL_a (leL_a (leL_a (leL_a (leL_a (leL_a (leL_a (leL_a (leL_a (leL_a (leL_a (leL_a (leL_a (leL_a (leL_a (leL_nil)))))))))))))))))))))))))))))))))))))))))))))))))))))))))))))))))))))))))))))))))))))))))))))))))))))))))))))))))))))))))))))))))))))))))))))))))))))), (leB_r rfl (leL_r (by first | rfl | (first | (rw [filter_take _ _ j (by omega), hdf]; simp))) (leL_r (by first | rfl | (first | (rw [filter_take _ _ j (by omega), hdf]; simp))) (leL_r (by first | rfl | (first | (rw [filter_take _ _ j (by omega), hdf]; simp))) (leL_nil)))) (leB_r rfl (leL_r (by first | rfl | (first | (rw [filter_take _ _ j (by omega), hdf]; simp))) (leL_r (by first | rfl | (first | (rw [filter_take _ _ j (by omega), hdf]; simp))) (leL_r (by first | rfl | (first | (rw [filter_take _ _ j (by omega), hdf]; simp))) (leL_nil)))) (leB_r rfl (by first | exact leL_self _ | exact leL_eq (fc_again _ _ _ m (by omega) _)) (leB_nil _)))), (leV_r (by first | rfl | (first | (rw [filter_take _ _ j (by omega), hdf]; simp))) (leV_nil _)), rfl, (bc3 rfl rfl (fcset_in _ _ _ _ _ _ (Nat.succ_pos _)))⟩⟩
        · try simp only [Zp,Zi,ZK,ZJ,ne_eq,Zn,Zm,ZB,ZA,ZI,not_or,not_and,Zu] at hc7
          refine aw_exit ?_
          refine exq_e ?_
          refine exq_e ?_
          refine exb_h ?_
          refine exb_n ?_
          refine exq_n ?_
          rw [show (visL la (la.length - 1) (m + 1) X).take j = (visL la (la.length - 1) (m + 1) X) from List.take_of_length_le (by omega)]
          refine aw_frz 0 rfl (σ' := ?s36) ?h36 ?n36
          case h36 => simp only [St.freeze,D.freeze,ZG,ZH,Za,Zb,Zr,reduceIte,Nat.reduceEqDiff]; exact rfl
          refine aw_regK hX hb [0, 1, 2] rfl (σ' := ?s35) (fun K hK => ?h35) ?n35
          case h35 =>
            iterate 3 (refine st_op rfl (by simp (disch := omega) only [stepf,callOf,qop,fop,St.ev,St.put,cd,zd,Value.oneCell',tb_T,TypeDesc.aggB,getD_0,getD_s,Ze,Zd,Zc,Za,Zb,Zr,ZE,ZF,Zf,Zq,Zg,i64_w,Zt,Zs,qBin,iop,t1,ti1,t3,ti3,t4,ti4,t54,ti54,Zh,map_at_l,map_at_i,map_at_n] <;> exact rfl) ?_)
            refine aops_nil ?_
            exact hK
          refine exq_n ?_
          exact ⟨((m : Int) - 1, ((visL la (la.length - 1) (m + 1) X).filter (differs la lb m))), by exact ⟨by dsimp only; omega, by dsimp only; rw [show ((m : Int) - 1 + 1).toNat = m by omega]; exact hnx⟩, by (try dsimp only); omega, wk_le ⟨rfl, leL_a (leL_a (leL_r rfl (leL_r rfl (leL_a (leL_a (leL_a (leL_a (leL_a (leL_r rfl (leL_r rfl (leL_r rfl (leL_a (leL_a (leL_a (leL_a (leL_a (leL_a (leL_a (leL_a (leL_a (leL_a (leL_a (leL_a (leL_a (leL_a (leL_a (leL_a (leL_a (leL_a (leL_a (leL_a (leL_a (leL_a (leL_a (leL_a (leL_a (leL_a (leL_a (leL_a (leL_a (leL_a (leL_a (leL_a (leL_a (leL_a (leL_a (leL_a (leL_a (leL_a (leL_a (leL_a (leL_a (leL_a (leL_a (leL_a (leL_a (leL_a (leL_a (leL_a (leL_a (leL_a (leL_a (leL_a (leL_a (leL_a (leL_a (leL_a (leL_a (leL_a (leL_a (leL_a (leL_a (leL_a (leL_a (leL_a (leL_a (leL_a (leL_a (leL_a (leL_a (leL_a (leL_a (leL_a (leL_a (leL_a (leL_a (leL_a (leL_a (leL_a (leL_a (leL_a (leL_a (leL_a (leL_a (leL_a (leL_a (leL_a (leL_a (leL_a (leL_a (leL_a (leL_a (leL_a (leL_a (leL_a (leL_a (leL_a (leL_a (leL_a (leL_a (leL_a (leL_a (leL_a (leL_a (leL_a (leL_a (leL_a (leL_a (leL_a (leL_a (leL_a (leL_a (leL_a (leL_a (leL_a (leL_a (leL_a (leL_a (leL_a (leL_a (leL_a (leL_a (leL_a (leL_a (leL_a (leL_a (leL_a (leL_a (leL_a (leL_a (leL_a (leL_a (leL_a (leL_a (leL_a (leL_a (leL_a (leL_a (leL_a (leL_nil)))))))))))))))))))))))))))))))))))))))))))))))))))))))))))))))))))))))))))))))))))))))))))))))))))))))))))))))))))))))))))))))))))))))))))))))))))))), (leB_r rfl (leL_r rfl (leL_r rfl (leL_r rfl (leL_nil)))) (leB_r rfl (leL_r rfl (leL_r rfl (leL_r rfl (leL_nil)))) (leB_r rfl (by first | exact fc_start _ (by omega) | (dsimp only; rw [show ((m : Int) - 1 + 1).toNat = m by omega]; exact fc_next (la.length - 1) m X _ (by omega) (by omega))) (leB_nil _)))), (leV_nil _), rfl, (bc3 rfl rfl (fcells_in _ _ _ _ _))⟩⟩
      · try simp only [Zp,Zi,ZK,ZJ,ne_eq,Zn,Zm,ZB,ZA,ZI,not_or,not_and,Zu] at hc3
        obtain rfl : lvI = -1 := by omega
        rw [show ((-1 : Int) + 1).toNat = 0 from rfl] at hI ⊢
        have hX0 := (hI.st (Nat.zero_le _)).all.1 rfl
        have hXl := few_len (by omega) hI
        have hXa : X.Pairwise (· < ·) := by rw [hX0]; exact (foundN_asc la lb _ 0).1
        have hXS : ∀ x ∈ X, x * F < S := fun x hx => leaf_lt q3 (by have := (hI.st (Nat.zero_le _)).inr x hx; rw [hrow] at this; simpa using this)
        refine aw_exit ?_
        refine exq_e ?_
        refine exq_e ?_
        refine exb_h ?_
        refine exq_n ?_
        refine aw_seq ?_
        refine aw_regK hX hb [0] rfl (σ' := ?s37) (fun K hK => ?h37) ?n37
        case h37 =>
          (refine st_op rfl (by simp (disch := omega) only [stepf,callOf,qop,fop,St.ev,St.put,cd,zd,Value.oneCell',tb_T,TypeDesc.aggB,getD_0,getD_s,Ze,Zd,Zc,Za,Zb,Zr,ZE,ZF,Zf,Zq,Zg,i64_w,Zt,Zs,Zh,map_at_l,map_at_i,map_at_n] <;> exact rfl) ?_)
          refine aops_nil ?_
          exact hK
        refine exq_n ?_
        refine aw_nil 17 35 2 rfl (σ' := ?s38) ?h38 ?n38
        case h38 => simp only [St.nilSlot,St.addVec,Za,Zb,Zl,Zo,ZL,ZM]; exact rfl
        refine aw_seq ?_
        refine aw_seq ?_
        refine aw_regK hX hb [0, 1, 2, 3] rfl (σ' := ?s39) (fun K hK => ?h39) ?n39
        case h39 =>
          iterate 4 (refine st_op rfl (by simp (disch := omega) only [stepf,callOf,qop,fop,St.ev,St.put,cd,zd,Value.oneCell',tb_T,TypeDesc.aggB,getD_0,getD_s,Ze,Zd,Zc,Za,Zb,Zr,ZE,ZF,Zf,Zq,Zg,i64_w,Zt,Zs,Int.toNat_zero,Int.toNat_one,toNat_pred,toNat_succ,qIndexAddr,ZO,Nat.mul_one,ZC,Nat.zero_mul,Zh,Zl,Zo,Zv,Zw,Zj,Zk,Zx,Zy,qLoad,bload,pload,pureAll,D.pure?,ZD,qLen,t3,ti3,t87,ti87,t126,ti126,map_at_l,map_at_i,map_at_n,fcells_at0] <;> exact rfl) ?_)
          refine aops_nil ?_
          exact hK
        refine exq_n ?_
        refine aw_block ?_
        refine aw_loop (ι := Nat) (fun j => j ≤ X.length) (fun j => ⟨[], [.any, .any, .ptr 0 0, .ptr 1 0, .any, .any, .any, .any, .any, .any, .any, .any, .any, .any, .any, .any, .any, .vref 0, .any, .any, .any, .any, .any, .any, .any, .any, .any, .any, .any, .any, .any, .any, .any, .any, .any, .any, .any, .any, .any, .any, .any, .any, .any, .any, .any, .any, .any, .any, .any, .any, .any, .any, .any, .any, .any, .any, .any, .any, .any, .any, .any, .any, .any, .any, .any, .any, .any, .any, .any, .any, .any, .any, .any, .any, .any, .any, .any, .any, .any, .any, .any, .any, .any, .any, .any, .any, .any, .any, .any, .any, .any, .any, .any, .any, .any, .any, .any, .any, .any, .any, .any, .any, .any, .any, .any, .any, .any, .any, .any, .any, .any, .any, .any, .any, .any, .any, .any, .any, .any, .any, .any, .any, .any, .p (natP X), .p (i64 X.length), .p (i64 j), .any, .any, .any, .any, .any, .any, .any, .any, .any, .any, .any, .any, .any, .any, .any, .any, .any, .any, .any, .any, .any, .any, .any, .any], [⟨26, [.p (i64 (S : Int)), .p (i64 (F : Int)), .p (lvls la)]⟩, ⟨26, [.p (i64 (S : Int)), .p (i64 (F : Int)), .p (lvls lb)]⟩], [some ⟨35, 2, (extRaw S F (X.take j)).length, extCells (extRaw S F (X.take j))⟩]⟩) (fun j => X.length - j) 0 (by exact Nat.zero_le _) (wk_le ⟨rfl, leL_a (leL_a (leL_r (by first | rfl | (rw [extRaw_take S F X j (by omega), ← extCells_snoc]; simp)) (leL_r (by first | rfl | (rw [extRaw_take S F X j (by omega), ← extCells_snoc]; simp)) (leL_a (leL_a (leL_a (leL_a (leL_a (leL_a (leL_a (leL_a (leL_a (leL_a (leL_a (leL_a (leL_a (leL_r (by first | rfl | (rw [extRaw_take S F X j (by omega), ← extCells_snoc]; simp)) (leL_a (leL_a (leL_a (leL_a (leL_a (leL_a (leL_a (leL_a (leL_a (leL_a (leL_a (leL_a (leL_a (leL_a (leL_a (leL_a (leL_a (leL_a (leL_a (leL_a (leL_a (leL_a (leL_a (leL_a (leL_a (leL_a (leL_a (leL_a (leL_a (leL_a (leL_a (leL_a (leL_a (leL_a (leL_a (leL_a (leL_a (leL_a (leL_a (leL_a (leL_a (leL_a (leL_a (leL_a (leL_a (leL_a (leL_a (leL_a (leL_a (leL_a (leL_a (leL_a (leL_a (leL_a (leL_a (leL_a (leL_a (leL_a (leL_a (leL_a (leL_a (leL_a (leL_a (leL_a (leL_a (leL_a (leL_a (leL_a (leL_a (leL_a (leL_a (leL_a (leL_a (leL_a (leL_a (leL_a (leL_a (leL_a (leL_a (leL_a (leL_a (leL_a (leL_a (leL_a (leL_a (leL_a (leL_a (leL_a (leL_a (leL_a (leL_a (leL_a (leL_a (leL_a (leL_a (leL_a (leL_a (leL_a (leL_a (leL_a (leL_a (leL_a (leL_a (leL_a (leL_a (leL_r (by first | rfl | (rw [extRaw_take S F X j (by omega), ← extCells_snoc]; simp)) (leL_r (by first | rfl | (rw [extRaw_take S F X j (by omega), ← extCells_snoc]; simp)) (leL_r (by first | rfl | (rw [extRaw_take S F X j (by omega), ← extCells_snoc]; simp)) (leL_a (leL_a (leL_a (leL_a (leL_a (leL_a (leL_a (leL_a (leL_a (leL_a (leL_a (leL_a (leL_a (leL_a (leL_a (leL_a (leL_a (leL_a (leL_a (leL_a (leL_a (leL_a (leL_a (leL_a (leL_nil)))))))))))))))))))))))))))))))))))))))))))))))))))))))))))))))))))))))))))))))))))))))))))))))))))))))))))))))))))))))))))))))))))))))))))))))))))))), (leB_r rfl (leL_r (by first | rfl | (rw [extRaw_take S F X j (by omega), ← extCells_snoc]; simp)) (leL_r (by first | rfl | (rw [extRaw_take S F X j (by omega), ← extCells_snoc]; simp)) (leL_r (by first | rfl | (rw [extRaw_take S F X j (by omega), ← extCells_snoc]; simp)) (leL_nil)))) (leB_r rfl (leL_r (by first | rfl | (rw [extRaw_take S F X j (by omega), ← extCells_snoc]; simp)) (leL_r (by first | rfl | (rw [extRaw_take S F X j (by omega), ← extCells_snoc]; simp)) (leL_r (by first | rfl | (rw [extRaw_take S F X j (by omega), ← extCells_snoc]; simp)) (leL_nil)))) (leB_nil _))), (leV_r (by first | rfl | (rw [extRaw_take S F X j (by omega), ← extCells_snoc]; simp)) (leV_nil _)), rfl, rfl⟩) ?_
        rintro j hJ
        have hel := extRaw_length S F (X.take j)
        rw [List.length_take] at hel
        refine aw_seq ?_
        refine aw_regK hX hb [0] rfl (σ' := ?s40) (fun K hK => ?h40) ?n40
        case h40 =>
          (refine st_op rfl (by simp (disch := omega) only [stepf,callOf,qop,fop,St.ev,St.put,cd,zd,Value.oneCell',tb_T,TypeDesc.aggB,getD_0,getD_s,Ze,Zd,Zc,Za,Zb,Zr,ZE,ZF,Zf,Zq,Zg,i64_w,Zt,Zs,qBin,iop,t3,ti3,t24,ti24,t26,ti26,t58,ti58,t60,ti60,t125,ti125,Zh,map_at_l,map_at_i,map_at_n] <;> exact rfl) ?_)
          refine aops_nil ?_
          exact hK
        refine exq_n ?_
        refine aw_seq ?_
        refine aw_cond _ rfl (fun hc9 => ?_) (fun hc9 => ?_)
        · try simp only [Zp,Zi,ZK,ZJ,ne_eq,Zn,Zm,ZB,ZA,ZI,not_or,not_and,Zu] at hc9
          refine aw_skip ?_
          refine exq_n ?_
          refine aw_seq ?_
          refine aw_block ?_
          refine aw_seq ?_
          refine aw_regK hX hb [0, 1, 2] rfl (σ' := ?s41) (fun K hK => ?h41) ?n41
          case h41 =>
            iterate 3 (refine st_op rfl (by simp (disch := omega) only [stepf,callOf,qop,fop,St.ev,St.put,cd,zd,Value.oneCell',tb_T,TypeDesc.aggB,getD_0,getD_s,Ze,Zd,Zc,Za,Zb,Zr,ZE,ZF,Zf,Zq,Zg,i64_w,Zt,Zs,Int.toNat_zero,Int.toNat_one,toNat_pred,toNat_succ,qIndexAddr,ZO,Nat.mul_one,ZC,Nat.zero_mul,Zh,Zl,Zo,Zv,Zw,Zj,Zk,Zx,Zy,qLoad,bload,pload,pureAll,D.pure?,ZD,t3,ti3,t24,ti24,t26,ti26,t58,ti58,t60,ti60,t87,ti87,t125,ti125,map_at_l,map_at_i,map_at_n] <;> exact rfl) ?_)
            refine aops_nil ?_
            exact hK
          refine exq_n ?_
          have hxm := hXS _ (getD_mem X 0 j (by omega))
          refine aw_regK hX hb [0, 1, 2, 3, 4, 5, 6, 7, 8, 9, 10, 11, 12, 13, 14, 15, 16, 17, 18] rfl (σ' := ?s42) (fun K hK => ?h42) ?n42
          case h42 =>
            iterate 19 (refine st_op rfl (by simp (disch := omega) only [stepf,callOf,qop,fop,St.ev,St.put,cd,zd,Value.oneCell',tb_T,TypeDesc.aggB,getD_0,getD_s,Ze,Zd,Zc,Za,Zb,Zr,ZE,ZF,Zf,Zq,Zg,i64_w,Zt,Zs,qFieldAddr,fieldOf,Zl,Zo,Zv,Zw,Zj,Zk,Zx,Zy,qLoad,bload,pload,pureAll,D.pure?,ZC,ZD,qBin,iop,min_ite,tb_W,tbO_W,qBuild,qBuildD,D.cell1,range_1,range_2,range_3,range_4,range_5,List.all_cons,List.all_nil,bfill,TI.place,TI.zeros,TI.kindOk,D.cells?,zp,Value.cells,ZQ,ZP,tb_N,tbO_N,tbW_N,tb_O,fBuildSlice,catCells,ZG,ZH,ZL,ZM,ZN,sec8_length,Nat.reduceAdd,Nat.reduceMul,fAppend,appV,St.demote,D.demote,St.setVec,Zh,List.length_append,Nat.mul_one,reduceIte,t1,ti1,t2,ti2,t3,ti3,t4,ti4,t5,ti5,t22,ti22,t24,ti24,t26,ti26,t35,ti35,t40,ti40,t50,ti50,t58,ti58,t60,ti60,t75,ti75,t133,ti133,t136,ti136,t139,ti139,t144,ti144,t145,ti145,map_at_l,map_at_i,map_at_n,mul_cast,extCells_length] <;> exact rfl) ?_)
            refine aops_nil ?_
            exact hK
          refine exb_n ?_
          refine exq_n ?_
          refine aw_regK hX hb [0, 1] rfl (σ' := ?s43) (fun K hK => ?h43) ?n43
          case h43 =>
            iterate 2 (refine st_op rfl (by simp (disch := omega) only [stepf,callOf,qop,fop,St.ev,St.put,cd,zd,Value.oneCell',tb_T,TypeDesc.aggB,getD_0,getD_s,Ze,Zd,Zc,Za,Zb,Zr,ZE,ZF,Zf,Zq,Zg,i64_w,Zt,Zs,qBin,iop,t1,ti1,t3,ti3,t24,ti24,t26,ti26,t58,ti58,t60,ti60,t125,ti125,Zh,map_at_l,map_at_i,map_at_n] <;> exact rfl) ?_)
            refine aops_nil ?_
            exact hK
          refine exq_n ?_
          exact ⟨j + 1, by (try dsimp only); omega, by (try dsimp only); omega, wk_le ⟨rfl, leL_a (leL_a (leL_r (by first | rfl | (rw [extRaw_take S F X j (by omega), ← extCells_snoc]; simp)) (leL_r (by first | rfl | (rw [extRaw_take S F X j (by omega), ← extCells_snoc]; simp)) (leL_a (leL_a (leL_a (leL_a (leL_a (leL_a (leL_a (leL_a (leL_a (leL_a (leL_a (leL_a (leL_a (leL_r (by first | rfl | (rw [extRaw_take S F X j (by omega), ← extCells_snoc]; simp)) (leL_a (leL_a (leL_a (leL_a (leL_a (leL_a (leL_a (leL_a (leL_a (leL_a (leL_a (leL_a (leL_a (leL_a (leL_a (leL_a (leL_a (leL_a (leL_a (leL_a (leL_a (leL_a (leL_a (leL_a (leL_a (leL_a (leL_a (leL_a (leL_a (leL_a (leL_a (leL_a (leL_a (leL_a (leL_a (leL_a (leL_a (leL_a (leL_a (leL_a (leL_a (leL_a (leL_a (leL_a (leL_a (leL_a (leL_a (leL_a (leL_a (leL_a (leL_a (leL_a (leL_a (leL_a (leL_a (leL_a (leL_a (leL_a (leL_a (leL_a (leL_a (leL_a (leL_a (leL_a (leL_a (leL_a (leL_a (leL_a (leL_a (leL_a (leL_a (leL_a (leL_a (leL_a (leL_a (leL_a (leL_a (leL_a (leL_a (leL_a (leL_a (leL_a (leL_a (leL_a (leL_a (leL_a (leL_a (leL_a (leL_a (leL_a (leL_a (leL_a (leL_a (leL_a (leL_a (leL_a (leL_a (leL_a (leL_a (leL_a (leL_a (leL_a (leL_a (leL_a (leL_a (leL_r (by first | rfl | (rw [extRaw_take S F X j (by omega), ← extCells_snoc]; simp)) (leL_r (by first | rfl | (rw [extRaw_take S F X j (by omega), ← extCells_snoc]; simp)) (leL_r (by first | rfl | (rw [extRaw_take S F X j (by omega), ← extCells_snoc]; simp)) (leL_a (leL_a (leL_a (leL_a (leL_a (leL_a (leL_a (leL_a (leL_a (leL_a (leL_a (leL_a (leL_a (leL_a (leL_a (leL_a (leL_a (leL_a (leL_a (leL_a (leL_a (leL_a (leL_a (leL_a (leL_nil)))))))))))))))))))))))))))))))))))))))))))))))))))))))))))))))))))))))))))))))))))))))))))))))))))))))))))))))))))))))))))))))))))))))))))))))))))))), (leB_r rfl (leL_r (by first | rfl | (rw [extRaw_take S F X j (by omega), ← extCells_snoc]; simp)) (leL_r (by first | rfl | (rw [extRaw_take S F X j (by omega), ← extCells_snoc]; simp)) (leL_r (by first | rfl | (rw [extRaw_take S F X j (by omega), ← extCells_snoc]; simp)) (leL_nil)))) (leB_r rfl (leL_r (by first | rfl | (rw [extRaw_take S F X j (by omega), ← extCells_snoc]; simp)) (leL_r (by first | rfl | (rw [extRaw_take S F X j (by omega), ← extCells_snoc]; simp)) (leL_r (by first | rfl | (rw [extRaw_take S F X j (by omega), ← extCells_snoc]; simp)) (leL_nil)))) (leB_nil _))), (leV_r (by first | rfl | (rw [extRaw_take S F X j (by omega), ← extCells_snoc]; simp)) (leV_nil _)), rfl, rfl⟩⟩
        · try simp only [Zp,Zi,ZK,ZJ,ne_eq,Zn,Zm,ZB,ZA,ZI,not_or,not_and,Zu] at hc9
          refine aw_exit ?_
          refine exq_e ?_
          refine exq_e ?_
          refine exb_h ?_
          refine exq_n ?_
          refine aw_seq ?_
          refine aw_frz 0 rfl (σ' := ?s45) ?h45 ?n45
          case h45 => simp only [St.freeze,D.freeze,ZG,ZH,Za,Zb,Zr,reduceIte,Nat.reduceEqDiff]; exact rfl
          refine aw_regK hX hb [0, 1, 2, 3] rfl (σ' := ?s44) (fun K hK => ?h44) ?n44
          case h44 =>
            (refine st_op rfl (by simp (disch := omega) only [stepf,callOf,qop,fop,St.ev,St.put,cd,zd,Value.oneCell',tb_T,TypeDesc.aggB,getD_0,getD_s,Ze,Zd,Zc,Za,Zb,Zr,ZE,ZF,Zf,Zq,Zg,i64_w,Zt,Zs,pvAll,D.pv?,t3,ti3,t35,ti35,t40,ti40,t148,ti148,t149,ti149,Zh,map_at_l,map_at_i,map_at_n] <;> exact rfl) ?_)
            refine st_call rfl (by simp only [callOf,St.ev,getD_0,getD_s,pvAll,D.pv?,ZG,ZH,zd,cd,Value.oneCell',Zr] <;> exact rfl) (acK hP (c73 (extRaw S F (X.take j)) 0 (by rw [extRaw_length, List.length_take]; omega) (goodE_raw q3 q2 fun x hx => hXS x (List.mem_of_mem_take hx)) (ascE_raw q3 _ 0 (hXa.sublist (List.take_sublist _ _)) (fun x hx => hXS x (List.mem_of_mem_take hx)) (fun _ _ => Int.natCast_nonneg _)))) (by simp only [St.put,Za,Zb] <;> exact rfl) ?_
            iterate 2 (refine st_op rfl (by simp (disch := omega) only [stepf,callOf,qop,fop,St.ev,St.put,cd,zd,Value.oneCell',tb_T,TypeDesc.aggB,getD_0,getD_s,Ze,Zd,Zc,Za,Zb,Zr,ZE,ZF,Zf,Zq,Zg,i64_w,Zt,Zs,pvAll,D.pv?,t3,ti3,t35,ti35,t40,ti40,t148,ti148,t149,ti149,Zh,map_at_l,map_at_i,map_at_n] <;> exact rfl) ?_)
            refine aops_nil ?_
            exact hK
          refine exq_n ?_
          refine aw_ret ?_
          exact ret_r rfl (resOf_two rfl rfl (by first | rfl | (first | exact diff_bad (by omega) h1 hc1 | (rw [refDiff, if_neg (not_not_intro (h1 (by omega))), if_neg (not_not_intro (h2 (by omega))), if_pos hc2]; rfl) | (rw [refDiff, if_neg (not_not_intro hch0), if_neg (not_not_intro hch1), if_neg (by rintro (h | h) <;> exact h rfl)]; dsimp only; rw [foundN_L, ← hX0, refExt_merge, Int.toNat_natCast, Int.toNat_natCast, show X.take j = X from List.take_of_length_le (by omega)]))))
end Go.Proofs.Ytldcoekbgfaomaa
end
section
namespace Go.Proofs.Ytldcoekbgfaomaa
open Go.RowKit
set_option maxRecDepth 20000
set_option maxHeartbeats 4000000
attribute [local irreducible] AOps AOpsD AW
def isU8 : D → Bool
  | .p (.v (.int .u8 _)) => true
  | _ => false
theorem isU8_ok {d : D} (h : isU8 d = true) : ∃ n, d = .p (.v (.int .u8 n)) := by
  unfold isU8 at h
  split at h
  · exact ⟨_, rfl⟩
  · cases h
theorem bo1 {σ : St} {l : List Nat} {b : Nat} {x : Bx} (hl : l = [b]) (hx : σ.boxes[b]? = some x) (h : x.cells.all isU8 = true) : BytesOnly σ l := by
  subst hl
  intro c hc
  simp only [List.mem_singleton] at hc
  subst hc
  exact ⟨x, hx, fun d hd => isU8_ok (List.all_eq_true.1 h d hd)⟩
theorem nou_u64 (n : Int) : NoU8 (u64 n) := .v _ (fun k h => by cases h)
theorem nou_i64 (n : Int) : NoU8 (i64 n) := .v _ (fun k h => by cases h)
theorem nou_u64s (l : List Int) : NoU8 (u64s l) := .sl _ _ (fun x hx => by obtain ⟨n, _, rfl⟩ := List.mem_map.1 hx; exact nou_u64 n) (fun h => by have := congrArg List.length h; simpa using this)
theorem nou_lvls (l : List (List Int)) : NoU8 (lvls l) := .sl _ _ (fun x hx => by obtain ⟨n, _, rfl⟩ := List.mem_map.1 hx; exact nou_u64s n) (fun h => by have := congrArg List.length h; simpa using this)
theorem no_u64 (n : Int) : D.No (.p (u64 n)) := .p _ (nou_u64 n)
theorem no_tree (a b c : Int) (lv : List (List Int)) : D.No (.tup [.agg [i64 a, i64 b, lvls lv], .p (i64 c)]) := .tup _ (fun d hd => by
  simp only [List.mem_cons,List.not_mem_nil,or_false] at hd
  rcases hd with rfl | rfl
  · refine .agg _ (fun x hx => ?_)
    simp only [List.mem_cons,List.not_mem_nil,or_false] at hx
    rcases hx with rfl | rfl | rfl
    · exact nou_i64 a
    · exact nou_i64 b
    · exact nou_lvls lv
  · exact .p _ (nou_i64 c))
def LA : List (List Int) := [[1, 0, 0, 0, 0, 0, 0, 0], [2, 0, 0, 0, 0, 0, 0, 0], [3, 0, 0, 0, 0, 0, 0, 0], [4, 0, 0, 0, 0, 0, 0, 0], [5, 0, 0, 0, 0, 0, 0, 0]]
def LB : List (List Int) := [[1, 0, 0, 0, 0, 0, 0, 0], [2, 0, 0, 0, 0, 0, 0, 0], [3, 0, 0, 0, 0, 0, 0, 0], [4, 0, 0, 0, 0, 0, 0, 0], [9, 0, 0, 0, 0, 0, 0, 0]]
def dA : Int := 8581494753980282981
def dB : Int := 6571624168811679103
def dC : Int := 1000385178391007780
def d9 : Int := 9341425990259583453
theorem dA_val : secsD [[1, 0, 0, 0, 0, 0, 0, 0], [2, 0, 0, 0, 0, 0, 0, 0]] = dA := by kernel_rfl
theorem dB_val : secsD [[3, 0, 0, 0, 0, 0, 0, 0], [4, 0, 0, 0, 0, 0, 0, 0]] = dB := by kernel_rfl
theorem dC_val : secsD [[5, 0, 0, 0, 0, 0, 0, 0]] = dC := by kernel_rfl
theorem d9_val : secsD [[9, 0, 0, 0, 0, 0, 0, 0]] = d9 := by kernel_rfl
theorem dR_val : pairD (pairD dA dB) dC = 6302506858429732562 := by kernel_rfl
theorem dS_val : pairD (pairD dA dB) d9 = 17037982916381769732 := by kernel_rfl
def lv3 (x y z : Int) : List (List Int) := [[x, y, z], [pairD x y, z], [pairD (pairD x y) z]]
theorem levels3 (x y z : Int) : levelsOf [x, y, z] = lv3 x y z := by
  rw [levelsOf_more (by simp), show upL [x, y, z] = [pairD x y, z] from rfl, levelsOf_more (by simp), show upL [pairD x y, z] = [pairD (pairD x y) z] from rfl, levelsOf_one (by simp)]
  rfl
theorem sh3 (x y z : Int) : shT (5 : Int).toNat (2 : Int).toNat (lv3 x y z) = true := by
  show sh false (nLeaves 5 2) (lv3 x y z) = true
  rw [show nLeaves 5 2 = 3 by decide]
  rfl
theorem chk3 (x y z : Int) : refChk ⟨5, 2, lv3 x y z⟩ = 0 := refChk_0 (show ¬ ((5 : Int) < 1 ∨ 4096 < (5 : Int)) by decide) (show ¬ ((2 : Int) < 1 ∨ 4096 < (2 : Int)) by decide) (sh3 x y z) (levels3 x y z)
theorem build3 : refBuild LA 2 = (⟨5, 2, lv3 dA dB dC⟩, 0) := by
  rw [refBuild, if_neg (by decide), if_neg (by decide)]
  have h : leafD LA ((2 : Int)).toNat = [dA, dB, dC] := by
    rw [← dA_val, ← dB_val, ← dC_val]
    rfl
  rw [h, treeOf, levels3]
  rfl
theorem proof3 (x y z : Int) : refPrf ⟨5, 2, lv3 x y z⟩ 2 = ([pairD x y], 0) := by
  rw [refPrf, if_neg (not_not_intro (chk3 x y z))]
  show (if (2 : Int) < 0 ∨ (([x, y, z] : List Int).length : Int) ≤ 2 then _ else _) = _
  rw [if_neg (show ¬ ((2 : Int) < 0 ∨ (([x, y, z] : List Int).length : Int) ≤ 2) by simp)]
  show (proofOf [x, y, z] 2, (0 : Int)) = _
  rw [proofOf_more (by simp), if_neg (show ¬ hasO 2 [x, y, z].length from (by decide : ¬ hasO 2 3)), show upL [x, y, z] = [pairD x y, z] from rfl, show 2 / 2 = 1 from rfl, proofOf_more (by simp), if_pos (show hasO 1 [pairD x y, z].length from (by decide : hasO 1 2)), show upL [pairD x y, z] = [pairD (pairD x y) z] from rfl, proofOf_one (by simp)]
  rfl
theorem proof0 (x y z : Int) : refPrf ⟨5, 2, lv3 x y z⟩ 0 = ([y, z], 0) := by
  rw [refPrf, if_neg (not_not_intro (chk3 x y z))]
  show (if (0 : Int) < 0 ∨ (([x, y, z] : List Int).length : Int) ≤ 0 then _ else _) = _
  rw [if_neg (show ¬ ((0 : Int) < 0 ∨ (([x, y, z] : List Int).length : Int) ≤ 0) by simp)]
  show (proofOf [x, y, z] 0, (0 : Int)) = _
  rw [proofOf_more (by simp), if_pos (show hasO 0 [x, y, z].length from (by decide : hasO 0 3)), show upL [x, y, z] = [pairD x y, z] from rfl, show 0 / 2 = 0 from rfl, proofOf_more (by simp), if_pos (show hasO 0 [pairD x y, z].length from (by decide : hasO 0 2)), show upL [pairD x y, z] = [pairD (pairD x y) z] from rfl, proofOf_one (by simp)]
  rfl
theorem upd3 : refUpd ⟨5, 2, lv3 dA dB dC⟩ LB 4 1 = (⟨5, 2, lv3 dA dB d9⟩, 0) := by
  rw [refUpd_0 (chk3 dA dB dC) (by rfl) (by decide)]
  have h : updL LB ((2 : Int)).toNat ((lv3 dA dB dC).getD 0 []) 4 1 = [dA, dB, d9] := by
    rw [← d9_val]
    rfl
  show (treeOf 5 2 (updL LB ((2 : Int)).toNat ((lv3 dA dB dC).getD 0 []) 4 1), (0 : Int)) = _
  rw [h, treeOf, levels3]
theorem diff3 : refDiff ⟨5, 2, lv3 dA dB dC⟩ ⟨5, 2, lv3 dA dB d9⟩ = ([(4, 1)], 0) := by
  rw [refDiff, if_neg (not_not_intro (chk3 dA dB dC)), if_neg (not_not_intro (chk3 dA dB d9)), if_neg (by decide)]
  have h : foundL (lv3 dA dB dC) (lv3 dA dB d9) 2 0 = [2] := by
    have n2 : ¬ nodeSame (lv3 dA dB dC) (lv3 dA dB d9) 2 0 := by
      show ¬ (1 ≤ 0 ∨ pairD (pairD dA dB) dC = pairD (pairD dA dB) d9)
      rw [dR_val, dS_val]
      decide
    have n1 : nodeSame (lv3 dA dB dC) (lv3 dA dB d9) 1 0 := .inr rfl
    have n1' : ¬ nodeSame (lv3 dA dB dC) (lv3 dA dB d9) 1 1 := by
      show ¬ (2 ≤ 1 ∨ dC = d9)
      decide
    have n0 : ¬ nodeSame (lv3 dA dB dC) (lv3 dA dB d9) 0 2 := by
      show ¬ (3 ≤ 2 ∨ dC = d9)
      decide
    have n0' : nodeSame (lv3 dA dB dC) (lv3 dA dB d9) 0 3 := .inl (Nat.le_refl 3)
    rw [foundL, if_neg n2, foundL, if_pos n1, foundL, if_neg n1', foundL, if_neg n0, foundL, if_pos n0']
    rfl
  show (refExt 5 2 (foundL (lv3 dA dB dC) (lv3 dA dB d9) 2 0), (0 : Int)) = _
  rw [h]
  rfl
theorem k62a : ACalls Try.prog 62 [.p (.sl 2 [u8 1, u8 0, u8 0, u8 0, u8 0, u8 0, u8 0, u8 0, u8 2, u8 0, u8 0, u8 0, u8 0, u8 0, u8 0, u8 0])] (.p (u64 dA)) := dA_val ▸ c62 [[1, 0, 0, 0, 0, 0, 0, 0], [2, 0, 0, 0, 0, 0, 0, 0]] (by decide)
theorem k62b : ACalls Try.prog 62 [.p (.sl 2 [u8 3, u8 0, u8 0, u8 0, u8 0, u8 0, u8 0, u8 0, u8 4, u8 0, u8 0, u8 0, u8 0, u8 0, u8 0, u8 0])] (.p (u64 dB)) := dB_val ▸ c62 [[3, 0, 0, 0, 0, 0, 0, 0], [4, 0, 0, 0, 0, 0, 0, 0]] (by decide)
theorem k62c : ACalls Try.prog 62 [.p (.sl 1 [u8 5, u8 0, u8 0, u8 0, u8 0, u8 0, u8 0, u8 0])] (.p (u64 dC)) := dC_val ▸ c62 [[5, 0, 0, 0, 0, 0, 0, 0]] (by decide)
@[reducible] def tP (x y z : Int) : PV := .agg [i64 5, i64 2, lvls (lv3 x y z)]
theorem k21 : ACalls Try.prog 21 [.p (.sl 5 [u8 1, u8 0, u8 0, u8 0, u8 0, u8 0, u8 0, u8 0, u8 2, u8 0, u8 0, u8 0, u8 0, u8 0, u8 0, u8 0, u8 3, u8 0, u8 0, u8 0, u8 0, u8 0, u8 0, u8 0, u8 4, u8 0, u8 0, u8 0, u8 0, u8 0, u8 0, u8 0, u8 5, u8 0, u8 0, u8 0, u8 0, u8 0, u8 0, u8 0]), .p (i64 2)] (.tup [tP dA dB dC, .p (i64 0)]) := by
  have := c21 LA 2
  rw [build3] at this
  exact this
theorem k37a : ACalls Try.prog 37 [tP dA dB dC, .p (i64 2)] (.tup [.p (u64s [pairD dA dB]), .p (i64 0)]) := by
  have := c37 ⟨5, 2, lv3 dA dB dC⟩ 2
  rw [proof3] at this
  exact this
theorem k37b : ACalls Try.prog 37 [tP dA dB dC, .p (i64 0)] (.tup [.p (u64s [dB, dC]), .p (i64 0)]) := by
  have := c37 ⟨5, 2, lv3 dA dB dC⟩ 0
  rw [proof0] at this
  exact this
theorem k25 : ACalls Try.prog 25 [tP dA dB dC, .p (.sl 5 [u8 1, u8 0, u8 0, u8 0, u8 0, u8 0, u8 0, u8 0, u8 2, u8 0, u8 0, u8 0, u8 0, u8 0, u8 0, u8 0, u8 3, u8 0, u8 0, u8 0, u8 0, u8 0, u8 0, u8 0, u8 4, u8 0, u8 0, u8 0, u8 0, u8 0, u8 0, u8 0, u8 9, u8 0, u8 0, u8 0, u8 0, u8 0, u8 0, u8 0]), .agg [i64 4, i64 1]] (.tup [tP dA dB d9, .p (i64 0)]) := by
  have := c25 ⟨5, 2, lv3 dA dB dC⟩ LB 4 1
  rw [upd3] at this
  exact this
theorem k27 : ACalls Try.prog 27 [tP dA dB dC, tP dA dB d9] (.tup [.p (exts [(4, 1)]), .p (i64 0)]) := by
  have := c27 ⟨5, 2, lv3 dA dB dC⟩ ⟨5, 2, lv3 dA dB d9⟩
  rw [diff3] at this
  exact this
theorem k23 : ACalls Try.prog 23 [tP dA dB dC, tP dA dB dC] (.p (bv true)) := by
  have := c23 ⟨5, 2, lv3 dA dB dC⟩ ⟨5, 2, lv3 dA dB dC⟩
  rwa [show decide _ = true from decide_eq_true ⟨rfl, rfl, rfl⟩] at this
theorem k40 (l : List Int) : ACalls Try.prog 40 [.p (u64s l), .p (u64s l)] (.p (bv true)) := by
  have := c40 l l
  rwa [show decide (l = l) = true from decide_eq_true rfl] at this
theorem k29 : ACalls Try.prog 29 [.p (exts [(4, 1)]), .p (exts [(4, 1)])] (.p (bv true)) := by
  have := c29 [(4, 1)] [(4, 1)]
  rwa [show decide _ = true from decide_eq_true rfl] at this
theorem c20  : ACalls Try.prog 20 [] (.p (bv true)) := by
  refine acalls_of tb_ok Try.func20 (c := _) rfl (by kernel_rfl) ?_
  intro X hP hX hro hpl
  have hb : tb.Ok X.P := hP ▸ tb_ok
  change AW X _ _ ⟨[], [.any, .any, .any, .any, .any, .any, .any, .any, .any, .any, .any, .any, .any, .any, .any, .any, .any, .any, .any, .any, .any, .any, .any, .any, .any, .any, .any, .any, .any, .any, .any, .any, .any, .any, .any, .any, .any, .any, .any, .any, .any, .any, .any, .any, .any, .any, .any, .any, .any, .any, .any, .any, .any, .any, .any, .any, .any, .any, .any, .any, .any, .any, .any, .any, .any, .any, .any, .any, .any, .any, .any, .any, .any, .any, .any, .any, .any, .any, .any, .any, .any, .any, .any, .any, .any, .any, .any, .any, .any, .any, .any, .any, .any, .any, .any, .any, .any, .any, .any, .any, .any, .any, .any, .any, .any, .any, .any, .any, .any, .any, .any, .any, .any, .any, .any, .any, .any, .any, .any, .any, .any, .any, .any], [], []⟩
  refine aw_seq ?_
  refine aw_regK hX hb [0] rfl (σ' := ?s1) (fun K hK => ?h1) ?n1
  case h1 =>
    (refine st_op rfl (by simp (disch := omega) only [stepf,callOf,qop,fop,St.ev,St.put,cd,zd,Value.oneCell',tb_T,TypeDesc.aggB,getD_0,getD_s,Ze,Zd,Zc,Za,Zb,Zr,ZE,ZF,Zf,Zq,Zg,i64_w,Zt,Zs] <;> exact rfl) ?_)
    refine aops_nil ?_
    exact hK
  refine exq_n ?_
  refine aw_seq ?_
  refine aw_regK hX (tbN_ok [21] hb) [0, 1, 2, 3, 4, 5, 6] rfl (σ' := ?s2) (fun K hK => ?h2) ?n2
  case h2 =>
    iterate 7 (refine st_op rfl (by simp (disch := omega) only [stepf,callOf,qop,fop,St.ev,St.put,cd,zd,Value.oneCell',tb_T,TypeDesc.aggB,getD_0,getD_s,Ze,Zd,Zc,Za,Zb,Zr,ZE,ZF,Zf,Zq,Zg,i64_w,Zt,Zs,tb_W,tbO_W,qBuild,qBuildD,D.cell1,range_1,range_2,range_3,range_4,range_5,List.all_cons,List.all_nil,bfill,TI.place,TI.zeros,TI.kindOk,D.cells?,D.pure?,zp,Value.cells,ZQ,ZP,Zl,Zo,tb_N,tbO_N,tbW_N,tb_O,fBuildSlice,catCells,ZG,ZH,ZL,ZM,ZN,sec8_length,Nat.reduceAdd,Nat.reduceMul,t1,ti1,t2,ti2,t3,ti3,t4,ti4,t5,ti5,t22,ti22,t50,ti50,Zv,Zw,Zj,Zk,Zx,Zy,Int.reduceToNat,Nat.reduceSub,Nat.reduceLeDiff,tbN_T,tbN_W,tbN_hit,St.addBox] <;> exact rfl) ?_)
    refine aops_nil ?_
    exact hK
  refine exq_n ?_
  refine aw_seq ?_
  refine aw_regD hX hb (try_mixed hP) [(0, true), (1, true), (3, true), (4, true), (6, true), (7, true), (2, false), (5, false), (8, false), (9, true), (10, true), (11, true)] (by kernel_rfl) (σ' := ?s3) (fun K hK => ?h3) ?n3
  case h3 =>
    iterate 6 (refine sd_q rfl (by simp (disch := omega) only [qop,fop,St.ev,St.put,cd,zd,Value.oneCell',tb_T,TypeDesc.aggB,getD_0,getD_s,Ze,Zd,Zc,Za,Zb,Zr,ZE,ZF,Zf,Zq,Zg,i64_w,Zt,Zs,imp_self,Int.toNat_one,Int.toNat_zero,Nat.one_mul,qSlice,bnd,Option.isSome_none,ZP,Option.map_none,implies_true,forall_const,ZO,Nat.sub_zero,pvAll,D.pv?,t1,ti1,t2,ti2,t3,ti3,t4,ti4,t5,ti5,t22,ti22,t24,ti24,t26,ti26,t27,ti27,t50,ti50,t58,ti58,t60,ti60,Zv,Zw,Zj,Zk,Zx,Zy,ZM,ZL,ZN,Zl,Zo,Int.reduceToNat,Nat.reduceMul,Nat.reduceAdd,Nat.reduceSub,Nat.reduceLeDiff] <;> exact rfl) (by simp only [St.put,Za,Zb] <;> exact rfl) ?_)
    refine sd_len rfl rfl (by simp only [St.ev,getD_0,getD_s,zd,cd,Value.oneCell',Zr] <;> exact rfl) (by simp only [pvAllL,capCells,D.pvC?,D.pvN?,D.pvL?,pureAll,D.pv?,D.pure?,St.ev,getD_0,getD_s,zd,cd,Value.oneCell',Zr,ZG,ZH,Zd,Zc,Zg,Zv,Zw,Zj,Zk,Zx,Zy,ZM,ZL,ZN,Zl,Zo,Int.reduceToNat,Nat.reduceMul,Nat.reduceAdd,Nat.reduceSub,Nat.reduceLeDiff] <;> exact rfl) (by exact bo1 rfl rfl rfl) (acK hP (k62a)) (no_u64 _) (by simp only [St.put,Za,Zb] <;> exact rfl) ?_
    refine sd_len rfl rfl (by simp only [St.ev,getD_0,getD_s,zd,cd,Value.oneCell',Zr] <;> exact rfl) (by simp only [pvAllL,capCells,D.pvC?,D.pvN?,D.pvL?,pureAll,D.pv?,D.pure?,St.ev,getD_0,getD_s,zd,cd,Value.oneCell',Zr,ZG,ZH,Zd,Zc,Zg,Zv,Zw,Zj,Zk,Zx,Zy,ZM,ZL,ZN,Zl,Zo,Int.reduceToNat,Nat.reduceMul,Nat.reduceAdd,Nat.reduceSub,Nat.reduceLeDiff] <;> exact rfl) (by exact bo1 rfl rfl rfl) (acK hP (k62b)) (no_u64 _) (by simp only [St.put,Za,Zb] <;> exact rfl) ?_
    refine sd_len rfl rfl (by simp only [St.ev,getD_0,getD_s,zd,cd,Value.oneCell',Zr] <;> exact rfl) (by simp only [pvAllL,capCells,D.pvC?,D.pvN?,D.pvL?,pureAll,D.pv?,D.pure?,St.ev,getD_0,getD_s,zd,cd,Value.oneCell',Zr,ZG,ZH,Zd,Zc,Zg,Zv,Zw,Zj,Zk,Zx,Zy,ZM,ZL,ZN,Zl,Zo,Int.reduceToNat,Nat.reduceMul,Nat.reduceAdd,Nat.reduceSub,Nat.reduceLeDiff] <;> exact rfl) (by exact bo1 rfl rfl rfl) (acK hP (k62c)) (no_u64 _) (by simp only [St.put,Za,Zb] <;> exact rfl) ?_
    iterate 3 (refine sd_q rfl (by simp (disch := omega) only [qop,fop,St.ev,St.put,cd,zd,Value.oneCell',tb_T,TypeDesc.aggB,getD_0,getD_s,Ze,Zd,Zc,Za,Zb,Zr,ZE,ZF,Zf,Zq,Zg,i64_w,Zt,Zs,imp_self,Int.toNat_one,Int.toNat_zero,Nat.one_mul,qSlice,bnd,Option.isSome_none,ZP,Option.map_none,implies_true,forall_const,ZO,Nat.sub_zero,pvAll,D.pv?,t1,ti1,t2,ti2,t3,ti3,t4,ti4,t5,ti5,t22,ti22,t24,ti24,t26,ti26,t27,ti27,t50,ti50,t58,ti58,t60,ti60,Zv,Zw,Zj,Zk,Zx,Zy,ZM,ZL,ZN,Zl,Zo,Int.reduceToNat,Nat.reduceMul,Nat.reduceAdd,Nat.reduceSub,Nat.reduceLeDiff] <;> exact rfl) (by simp only [St.put,Za,Zb] <;> exact rfl) ?_)
    refine aopsd_nil ?_
    exact hK
  refine exq_n ?_
  refine aw_seq ?_
  refine aw_regK hX hb [0, 1, 2, 3, 4, 5, 6, 7] rfl (σ' := ?s4) (fun K hK => ?h4) ?n4
  case h4 =>
    (refine st_op rfl (by simp (disch := omega) only [stepf,callOf,qop,fop,St.ev,St.put,cd,zd,Value.oneCell',tb_T,TypeDesc.aggB,getD_0,getD_s,Ze,Zd,Zc,Za,Zb,Zr,ZE,ZF,Zf,Zq,Zg,i64_w,Zt,Zs,pvAll,D.pv?,qTup,PV.d,ZM,ZL,Zl,Zo,ZG,ZH,St.addBox,Value.cells,fStore,D.boxCells,D.live,D.cells?,D.pure?,Zv,Zw,Zj,Zk,Zx,Zy,ZN,St.setVec,ZC,t1,ti1,t2,ti2,t3,ti3,t5,ti5,t22,ti22,t24,ti24,t26,ti26,t35,ti35,t50,ti50,t58,ti58,t60,ti60] <;> exact rfl) ?_)
    refine st_len rfl rfl (by simp only [St.ev,getD_0,getD_s,zd,cd,Value.oneCell',Zr] <;> exact rfl) (by simp only [pvAllL,capCells,D.pvC?,D.pvN?,D.pvL?,pureAll,D.pv?,D.pure?,St.ev,getD_0,getD_s,zd,cd,Value.oneCell',Zr,ZG,ZH,Zd,Zc,Zg,Zv,Zw,Zj,Zk,Zx,Zy,ZM,ZL,ZN,Zl,Zo,Int.reduceToNat,Nat.reduceMul,Nat.reduceAdd,Nat.reduceSub,Nat.reduceLeDiff] <;> exact rfl) (by exact bo1 rfl rfl rfl) (acK hP (k21)) (no_tree _ _ _ _) (by simp only [St.put,Za,Zb] <;> exact rfl) ?_
    iterate 6 (refine st_op rfl (by simp (disch := omega) only [stepf,callOf,qop,fop,St.ev,St.put,cd,zd,Value.oneCell',tb_T,TypeDesc.aggB,getD_0,getD_s,Ze,Zd,Zc,Za,Zb,Zr,ZE,ZF,Zf,Zq,Zg,i64_w,Zt,Zs,pvAll,D.pv?,qTup,PV.d,ZM,ZL,Zl,Zo,ZG,ZH,St.addBox,Value.cells,fStore,D.boxCells,D.live,D.cells?,D.pure?,Zv,Zw,Zj,Zk,Zx,Zy,ZN,St.setVec,ZC,t1,ti1,t2,ti2,t3,ti3,t5,ti5,t22,ti22,t24,ti24,t26,ti26,t35,ti35,t50,ti50,t58,ti58,t60,ti60] <;> exact rfl) ?_)
    refine aops_nil ?_
    exact hK
  refine exq_n ?_
  refine aw_seq ?_
  refine aw_regK hX hb [0, 1, 2, 3, 4, 5, 6, 7, 8, 9, 10, 11, 12, 13, 14, 15, 16, 17, 18] rfl (σ' := ?s5) (fun K hK => ?h5) ?n5
  case h5 =>
    iterate 6 (refine st_op rfl (by simp (disch := omega) only [stepf,callOf,qop,fop,St.ev,St.put,cd,zd,Value.oneCell',tb_T,TypeDesc.aggB,getD_0,getD_s,Ze,Zd,Zc,Za,Zb,Zr,ZE,ZF,Zf,Zq,Zg,i64_w,Zt,Zs,tb_N,tbO_N,tbW_N,tb_O,fBuildSlice,catCells,D.cells?,D.pure?,range_1,range_2,range_3,range_4,range_5,ZG,ZH,ZL,ZM,ZN,Zl,Zo,sec8_length,Nat.reduceAdd,Nat.reduceMul,pvAll,D.pv?,tb_W,tbO_W,qBuild,qBuildD,D.cell1,List.all_cons,List.all_nil,bfill,TI.place,TI.zeros,TI.kindOk,zp,Value.cells,ZQ,ZP,St.addBox,fStore,D.boxCells,D.live,Zv,Zw,Zj,Zk,Zx,Zy,St.setVec,ZC,t1,ti1,t2,ti2,t3,ti3,t4,ti4,t5,ti5,t22,ti22,t24,ti24,t26,ti26,t35,ti35,t40,ti40,t47,ti47,t50,ti50,t58,ti58,t60,ti60,t63,ti63,Int.reduceToNat,Nat.reduceSub,Nat.reduceLeDiff] <;> exact rfl) ?_)
    refine st_call rfl (by simp only [callOf,St.ev,getD_0,getD_s,pvAll,D.pv?,ZG,ZH,zd,cd,Value.oneCell',Zr] <;> exact rfl) (acK hP (c63 _ _)) (by simp only [St.put,Za,Zb] <;> exact rfl) ?_
    iterate 4 (refine st_op rfl (by simp (disch := omega) only [stepf,callOf,qop,fop,St.ev,St.put,cd,zd,Value.oneCell',tb_T,TypeDesc.aggB,getD_0,getD_s,Ze,Zd,Zc,Za,Zb,Zr,ZE,ZF,Zf,Zq,Zg,i64_w,Zt,Zs,tb_N,tbO_N,tbW_N,tb_O,fBuildSlice,catCells,D.cells?,D.pure?,range_1,range_2,range_3,range_4,range_5,ZG,ZH,ZL,ZM,ZN,Zl,Zo,sec8_length,Nat.reduceAdd,Nat.reduceMul,pvAll,D.pv?,tb_W,tbO_W,qBuild,qBuildD,D.cell1,List.all_cons,List.all_nil,bfill,TI.place,TI.zeros,TI.kindOk,zp,Value.cells,ZQ,ZP,St.addBox,fStore,D.boxCells,D.live,Zv,Zw,Zj,Zk,Zx,Zy,St.setVec,ZC,t1,ti1,t2,ti2,t3,ti3,t4,ti4,t5,ti5,t22,ti22,t24,ti24,t26,ti26,t35,ti35,t40,ti40,t47,ti47,t50,ti50,t58,ti58,t60,ti60,t63,ti63,Int.reduceToNat,Nat.reduceSub,Nat.reduceLeDiff] <;> exact rfl) ?_)
    refine st_call rfl (by simp only [callOf,St.ev,getD_0,getD_s,pvAll,D.pv?,ZG,ZH,zd,cd,Value.oneCell',Zr] <;> exact rfl) (acK hP (c63 _ _)) (by simp only [St.put,Za,Zb] <;> exact rfl) ?_
    (refine st_op rfl (by simp (disch := omega) only [stepf,callOf,qop,fop,St.ev,St.put,cd,zd,Value.oneCell',tb_T,TypeDesc.aggB,getD_0,getD_s,Ze,Zd,Zc,Za,Zb,Zr,ZE,ZF,Zf,Zq,Zg,i64_w,Zt,Zs,tb_N,tbO_N,tbW_N,tb_O,fBuildSlice,catCells,D.cells?,D.pure?,range_1,range_2,range_3,range_4,range_5,ZG,ZH,ZL,ZM,ZN,Zl,Zo,sec8_length,Nat.reduceAdd,Nat.reduceMul,pvAll,D.pv?,tb_W,tbO_W,qBuild,qBuildD,D.cell1,List.all_cons,List.all_nil,bfill,TI.place,TI.zeros,TI.kindOk,zp,Value.cells,ZQ,ZP,St.addBox,fStore,D.boxCells,D.live,Zv,Zw,Zj,Zk,Zx,Zy,St.setVec,ZC,t1,ti1,t2,ti2,t3,ti3,t4,ti4,t5,ti5,t22,ti22,t24,ti24,t26,ti26,t35,ti35,t40,ti40,t47,ti47,t50,ti50,t58,ti58,t60,ti60,t63,ti63,Int.reduceToNat,Nat.reduceSub,Nat.reduceLeDiff] <;> exact rfl) ?_)
    refine st_call rfl (by simp only [callOf,St.ev,getD_0,getD_s,pvAll,D.pv?,ZG,ZH,zd,cd,Value.oneCell',Zr] <;> exact rfl) (acK hP (c63 _ _)) (by simp only [St.put,Za,Zb] <;> exact rfl) ?_
    iterate 5 (refine st_op rfl (by simp (disch := omega) only [stepf,callOf,qop,fop,St.ev,St.put,cd,zd,Value.oneCell',tb_T,TypeDesc.aggB,getD_0,getD_s,Ze,Zd,Zc,Za,Zb,Zr,ZE,ZF,Zf,Zq,Zg,i64_w,Zt,Zs,tb_N,tbO_N,tbW_N,tb_O,fBuildSlice,catCells,D.cells?,D.pure?,range_1,range_2,range_3,range_4,range_5,ZG,ZH,ZL,ZM,ZN,Zl,Zo,sec8_length,Nat.reduceAdd,Nat.reduceMul,pvAll,D.pv?,tb_W,tbO_W,qBuild,qBuildD,D.cell1,List.all_cons,List.all_nil,bfill,TI.place,TI.zeros,TI.kindOk,zp,Value.cells,ZQ,ZP,St.addBox,fStore,D.boxCells,D.live,Zv,Zw,Zj,Zk,Zx,Zy,St.setVec,ZC,t1,ti1,t2,ti2,t3,ti3,t4,ti4,t5,ti5,t22,ti22,t24,ti24,t26,ti26,t35,ti35,t40,ti40,t47,ti47,t50,ti50,t58,ti58,t60,ti60,t63,ti63,Int.reduceToNat,Nat.reduceSub,Nat.reduceLeDiff] <;> exact rfl) ?_)
    refine aops_nil ?_
    exact hK
  refine exq_n ?_
  refine aw_seq ?_
  refine aw_regK hX hb [0, 1, 2, 3, 4, 5, 6] rfl (σ' := ?s6) (fun K hK => ?h6) ?n6
  case h6 =>
    (refine st_op rfl (by simp (disch := omega) only [stepf,callOf,qop,fop,St.ev,St.put,cd,zd,Value.oneCell',tb_T,TypeDesc.aggB,getD_0,getD_s,Ze,Zd,Zc,Za,Zb,Zr,ZE,ZF,Zf,Zq,Zg,i64_w,Zt,Zs,Zl,Zo,Zv,Zw,Zj,Zk,Zx,Zy,qLoad,bload,pload,pureAll,D.pure?,ZC,ZD,pvAll,D.pv?,qTup,PV.d,t1,ti1,t2,ti2,t3,ti3,t4,ti4,t5,ti5,t24,ti24,t26,ti26,t54,ti54,t58,ti58,t60,ti60,ZM,ZL,ZN,Int.reduceToNat,Nat.reduceMul,Nat.reduceAdd,Nat.reduceSub,Nat.reduceLeDiff] <;> exact rfl) ?_)
    refine st_call rfl (by simp only [callOf,St.ev,getD_0,getD_s,pvAll,D.pv?,ZG,ZH,zd,cd,Value.oneCell',Zr] <;> exact rfl) (acK hP (k37a)) (by simp only [St.put,Za,Zb] <;> exact rfl) ?_
    iterate 5 (refine st_op rfl (by simp (disch := omega) only [stepf,callOf,qop,fop,St.ev,St.put,cd,zd,Value.oneCell',tb_T,TypeDesc.aggB,getD_0,getD_s,Ze,Zd,Zc,Za,Zb,Zr,ZE,ZF,Zf,Zq,Zg,i64_w,Zt,Zs,Zl,Zo,Zv,Zw,Zj,Zk,Zx,Zy,qLoad,bload,pload,pureAll,D.pure?,ZC,ZD,pvAll,D.pv?,qTup,PV.d,t1,ti1,t2,ti2,t3,ti3,t4,ti4,t5,ti5,t24,ti24,t26,ti26,t54,ti54,t58,ti58,t60,ti60,ZM,ZL,ZN,Int.reduceToNat,Nat.reduceMul,Nat.reduceAdd,Nat.reduceSub,Nat.reduceLeDiff] <;> exact rfl) ?_)
    refine aops_nil ?_
    exact hK
  refine exq_n ?_
  refine aw_seq ?_
  refine aw_regK hX hb [0, 1, 2, 3, 4, 5, 6] rfl (σ' := ?s7) (fun K hK => ?h7) ?n7
  case h7 =>
    (refine st_op rfl (by simp (disch := omega) only [stepf,callOf,qop,fop,St.ev,St.put,cd,zd,Value.oneCell',tb_T,TypeDesc.aggB,getD_0,getD_s,Ze,Zd,Zc,Za,Zb,Zr,ZE,ZF,Zf,Zq,Zg,i64_w,Zt,Zs,Zl,Zo,Zv,Zw,Zj,Zk,Zx,Zy,qLoad,bload,pload,pureAll,D.pure?,ZC,ZD,pvAll,D.pv?,qTup,PV.d,t1,ti1,t3,ti3,t5,ti5,t24,ti24,t26,ti26,t58,ti58,t60,ti60,ZM,ZL,ZN,Int.reduceToNat,Nat.reduceMul,Nat.reduceAdd,Nat.reduceSub,Nat.reduceLeDiff] <;> exact rfl) ?_)
    refine st_call rfl (by simp only [callOf,St.ev,getD_0,getD_s,pvAll,D.pv?,ZG,ZH,zd,cd,Value.oneCell',Zr] <;> exact rfl) (acK hP (k37b)) (by simp only [St.put,Za,Zb] <;> exact rfl) ?_
    iterate 5 (refine st_op rfl (by simp (disch := omega) only [stepf,callOf,qop,fop,St.ev,St.put,cd,zd,Value.oneCell',tb_T,TypeDesc.aggB,getD_0,getD_s,Ze,Zd,Zc,Za,Zb,Zr,ZE,ZF,Zf,Zq,Zg,i64_w,Zt,Zs,Zl,Zo,Zv,Zw,Zj,Zk,Zx,Zy,qLoad,bload,pload,pureAll,D.pure?,ZC,ZD,pvAll,D.pv?,qTup,PV.d,t1,ti1,t3,ti3,t5,ti5,t24,ti24,t26,ti26,t58,ti58,t60,ti60,ZM,ZL,ZN,Int.reduceToNat,Nat.reduceMul,Nat.reduceAdd,Nat.reduceSub,Nat.reduceLeDiff] <;> exact rfl) ?_)
    refine aops_nil ?_
    exact hK
  refine exq_n ?_
  refine aw_seq ?_
  refine aw_regK hX hb [0, 1, 2, 3] rfl (σ' := ?s8) (fun K hK => ?h8) ?n8
  case h8 =>
    iterate 4 (refine st_op rfl (by simp (disch := omega) only [stepf,callOf,qop,fop,St.ev,St.put,cd,zd,Value.oneCell',tb_T,TypeDesc.aggB,getD_0,getD_s,Ze,Zd,Zc,Za,Zb,Zr,ZE,ZF,Zf,Zq,Zg,i64_w,Zt,Zs,tb_W,tbO_W,qBuild,qBuildD,D.cell1,range_1,range_2,range_3,range_4,range_5,List.all_cons,List.all_nil,bfill,TI.place,TI.zeros,TI.kindOk,D.cells?,D.pure?,zp,Value.cells,ZQ,ZP,Zl,Zo,Int.toNat_zero,Int.toNat_one,toNat_pred,toNat_succ,qIndexAddr,ZO,Nat.mul_one,ZC,Nat.zero_mul,Zh,fStore,D.boxCells,D.live,Zv,Zw,Zj,Zk,Zx,Zy,ZM,ZL,ZN,ZG,ZH,St.setVec,t1,ti1,t3,ti3,t4,ti4,t5,ti5,t22,ti22,t50,ti50,t58,ti58,t60,ti60,t63,ti63,Int.reduceToNat,Nat.reduceMul,Nat.reduceAdd,Nat.reduceSub,Nat.reduceLeDiff] <;> exact rfl) ?_)
    refine aops_nil ?_
    exact hK
  refine exq_n ?_
  refine aw_seq ?_
  refine aw_regK hX hb [0, 1, 2, 3, 4, 5, 6, 7, 8, 9] rfl (σ' := ?s9) (fun K hK => ?h9) ?n9
  case h9 =>
    iterate 3 (refine st_op rfl (by simp (disch := omega) only [stepf,callOf,qop,fop,St.ev,St.put,cd,zd,Value.oneCell',tb_T,TypeDesc.aggB,getD_0,getD_s,Ze,Zd,Zc,Za,Zb,Zr,ZE,ZF,Zf,Zq,Zg,i64_w,Zt,Zs,Zl,Zo,Zv,Zw,Zj,Zk,Zx,Zy,qLoad,bload,pload,pureAll,D.pure?,ZC,ZD,tb_W,tbO_W,qBuild,qBuildD,D.cell1,range_1,range_2,range_3,range_4,range_5,List.all_cons,List.all_nil,bfill,TI.place,TI.zeros,TI.kindOk,D.cells?,zp,Value.cells,ZQ,ZP,pvAll,D.pv?,qTup,PV.d,ZM,ZL,ZG,ZH,St.addBox,fStore,D.boxCells,D.live,ZN,St.setVec,t1,ti1,t3,ti3,t4,ti4,t5,ti5,t22,ti22,t24,ti24,t26,ti26,t35,ti35,t50,ti50,t58,ti58,t60,ti60,t69,ti69,t71,ti71,Int.reduceToNat,Nat.reduceMul,Nat.reduceAdd,Nat.reduceSub,Nat.reduceLeDiff] <;> exact rfl) ?_)
    refine st_len rfl rfl (by simp only [St.ev,getD_0,getD_s,zd,cd,Value.oneCell',Zr] <;> exact rfl) (by simp only [pvAllL,capCells,D.pvC?,D.pvN?,D.pvL?,pureAll,D.pv?,D.pure?,St.ev,getD_0,getD_s,zd,cd,Value.oneCell',Zr,ZG,ZH,Zd,Zc,Zg,Zv,Zw,Zj,Zk,Zx,Zy,ZM,ZL,ZN,Zl,Zo,Int.reduceToNat,Nat.reduceMul,Nat.reduceAdd,Nat.reduceSub,Nat.reduceLeDiff] <;> exact rfl) (by exact bo1 rfl rfl rfl) (acK hP (k25)) (no_tree _ _ _ _) (by simp only [St.put,Za,Zb] <;> exact rfl) ?_
    iterate 6 (refine st_op rfl (by simp (disch := omega) only [stepf,callOf,qop,fop,St.ev,St.put,cd,zd,Value.oneCell',tb_T,TypeDesc.aggB,getD_0,getD_s,Ze,Zd,Zc,Za,Zb,Zr,ZE,ZF,Zf,Zq,Zg,i64_w,Zt,Zs,Zl,Zo,Zv,Zw,Zj,Zk,Zx,Zy,qLoad,bload,pload,pureAll,D.pure?,ZC,ZD,tb_W,tbO_W,qBuild,qBuildD,D.cell1,range_1,range_2,range_3,range_4,range_5,List.all_cons,List.all_nil,bfill,TI.place,TI.zeros,TI.kindOk,D.cells?,zp,Value.cells,ZQ,ZP,pvAll,D.pv?,qTup,PV.d,ZM,ZL,ZG,ZH,St.addBox,fStore,D.boxCells,D.live,ZN,St.setVec,t1,ti1,t3,ti3,t4,ti4,t5,ti5,t22,ti22,t24,ti24,t26,ti26,t35,ti35,t50,ti50,t58,ti58,t60,ti60,t69,ti69,t71,ti71,Int.reduceToNat,Nat.reduceMul,Nat.reduceAdd,Nat.reduceSub,Nat.reduceLeDiff] <;> exact rfl) ?_)
    refine aops_nil ?_
    exact hK
  refine exq_n ?_
  refine aw_seq ?_
  refine aw_regK hX hb [0, 1, 2, 3, 4, 5, 6, 7] rfl (σ' := ?s10) (fun K hK => ?h10) ?n10
  case h10 =>
    iterate 2 (refine st_op rfl (by simp (disch := omega) only [stepf,callOf,qop,fop,St.ev,St.put,cd,zd,Value.oneCell',tb_T,TypeDesc.aggB,getD_0,getD_s,Ze,Zd,Zc,Za,Zb,Zr,ZE,ZF,Zf,Zq,Zg,i64_w,Zt,Zs,Zl,Zo,Zv,Zw,Zj,Zk,Zx,Zy,qLoad,bload,pload,pureAll,D.pure?,ZC,ZD,pvAll,D.pv?,qTup,PV.d,t1,ti1,t3,ti3,t4,ti4,t5,ti5,t24,ti24,t26,ti26,t27,ti27,t35,ti35,t40,ti40,t58,ti58,t60,ti60,t75,ti75,t77,ti77,t87,ti87,t88,ti88,t90,ti90,ZM,ZL,ZN,Int.reduceToNat,Nat.reduceMul,Nat.reduceAdd,Nat.reduceSub,Nat.reduceLeDiff] <;> exact rfl) ?_)
    refine st_call rfl (by simp only [callOf,St.ev,getD_0,getD_s,pvAll,D.pv?,ZG,ZH,zd,cd,Value.oneCell',Zr] <;> exact rfl) (acK hP (k27)) (by simp only [St.put,Za,Zb] <;> exact rfl) ?_
    iterate 5 (refine st_op rfl (by simp (disch := omega) only [stepf,callOf,qop,fop,St.ev,St.put,cd,zd,Value.oneCell',tb_T,TypeDesc.aggB,getD_0,getD_s,Ze,Zd,Zc,Za,Zb,Zr,ZE,ZF,Zf,Zq,Zg,i64_w,Zt,Zs,Zl,Zo,Zv,Zw,Zj,Zk,Zx,Zy,qLoad,bload,pload,pureAll,D.pure?,ZC,ZD,pvAll,D.pv?,qTup,PV.d,t1,ti1,t3,ti3,t4,ti4,t5,ti5,t24,ti24,t26,ti26,t27,ti27,t35,ti35,t40,ti40,t58,ti58,t60,ti60,t75,ti75,t77,ti77,t87,ti87,t88,ti88,t90,ti90,ZM,ZL,ZN,Int.reduceToNat,Nat.reduceMul,Nat.reduceAdd,Nat.reduceSub,Nat.reduceLeDiff] <;> exact rfl) ?_)
    refine aops_nil ?_
    exact hK
  refine exq_n ?_
  refine aw_seq ?_
  refine aw_regK hX hb [0, 1, 2, 3, 4, 5, 6, 7, 8, 9, 10, 11, 12, 13, 14, 15, 16, 17, 18, 19, 20, 21, 22, 23, 24, 25, 26, 27, 28, 29, 30, 31, 32, 33, 34, 35, 36, 37, 38, 39, 40, 41, 42, 43, 44] rfl (σ' := ?s11) (fun K hK => ?h11) ?n11
  case h11 =>
    iterate 3 (refine st_op rfl (by simp (disch := omega) only [stepf,callOf,qop,fop,St.ev,St.put,cd,zd,Value.oneCell',tb_T,TypeDesc.aggB,getD_0,getD_s,Ze,Zd,Zc,Za,Zb,Zr,ZE,ZF,Zf,Zq,Zg,i64_w,Zt,Zs,qBin,iop,Zl,Zo,Zv,Zw,Zj,Zk,Zx,Zy,qLoad,bload,pload,pureAll,D.pure?,ZC,ZD,pvAll,D.pv?,tb_N,tbO_N,tbW_N,tb_O,fBuildSlice,catCells,D.cells?,range_1,range_2,range_3,range_4,range_5,ZG,ZH,ZL,ZM,ZN,sec8_length,Nat.reduceAdd,Nat.reduceMul,tb_W,tbO_W,qBuild,qBuildD,D.cell1,List.all_cons,List.all_nil,bfill,TI.place,TI.zeros,TI.kindOk,zp,Value.cells,ZQ,ZP,t1,ti1,t2,ti2,t3,ti3,t4,ti4,t5,ti5,t22,ti22,t24,ti24,t26,ti26,t27,ti27,t35,ti35,t40,ti40,t50,ti50,t58,ti58,t60,ti60,t63,ti63,t87,ti87,t88,ti88,t90,ti90,t101,ti101,t115,ti115,t117,ti117,t118,ti118,Int.reduceToNat,Nat.reduceSub,Nat.reduceLeDiff] <;> exact rfl) ?_)
    iterate 2 (all_goals first | (refine st_g1 rfl rfl rfl (by simp (disch := omega) only [stepf,callOf,qop,fop,St.ev,St.put,cd,zd,Value.oneCell',tb_T,TypeDesc.aggB,getD_0,getD_s,Ze,Zd,Zc,Za,Zb,Zr,ZE,ZF,Zf,Zq,Zg,i64_w,Zt,Zs,qBin,iop,Zl,Zo,Zv,Zw,Zj,Zk,Zx,Zy,qLoad,bload,pload,pureAll,D.pure?,ZC,ZD,pvAll,D.pv?,tb_N,tbO_N,tbW_N,tb_O,fBuildSlice,catCells,D.cells?,range_1,range_2,range_3,range_4,range_5,ZG,ZH,ZL,ZM,ZN,sec8_length,Nat.reduceAdd,Nat.reduceMul,tb_W,tbO_W,qBuild,qBuildD,D.cell1,List.all_cons,List.all_nil,bfill,TI.place,TI.zeros,TI.kindOk,zp,Value.cells,ZQ,ZP,t1,ti1,t2,ti2,t3,ti3,t4,ti4,t5,ti5,t22,ti22,t24,ti24,t26,ti26,t27,ti27,t35,ti35,t40,ti40,t50,ti50,t58,ti58,t60,ti60,t63,ti63,t87,ti87,t88,ti88,t90,ti90,t101,ti101,t115,ti115,t117,ti117,t118,ti118,Int.reduceToNat,Nat.reduceSub,Nat.reduceLeDiff] <;> exact rfl) ?_) | (first | (refine st_g0 rfl rfl rfl (by simp only [St.put,Za,Zb] <;> exact rfl) ?_) | (refine st_gu rfl rfl rfl (by simp only [St.put,Za,Zb] <;> exact rfl) ?_)) | (refine st_split rfl rfl rfl (by simp only [Za,Zb] <;> exact rfl) (by simp only [Za,Zb] <;> exact rfl) (fun hg => ?_) (fun hg => ?_) <;> (try simp only [Zp,Zi,ZJ,ZK,ne_eq,Zn,Zm,Bool.not_eq_true,Zu] at hg) <;> first | (refine st_g1 rfl rfl rfl (by simp (disch := omega) only [stepf,callOf,qop,fop,St.ev,St.put,cd,zd,Value.oneCell',tb_T,TypeDesc.aggB,getD_0,getD_s,Ze,Zd,Zc,Za,Zb,Zr,ZE,ZF,Zf,Zq,Zg,i64_w,Zt,Zs,qBin,iop,Zl,Zo,Zv,Zw,Zj,Zk,Zx,Zy,qLoad,bload,pload,pureAll,D.pure?,ZC,ZD,pvAll,D.pv?,tb_N,tbO_N,tbW_N,tb_O,fBuildSlice,catCells,D.cells?,range_1,range_2,range_3,range_4,range_5,ZG,ZH,ZL,ZM,ZN,sec8_length,Nat.reduceAdd,Nat.reduceMul,tb_W,tbO_W,qBuild,qBuildD,D.cell1,List.all_cons,List.all_nil,bfill,TI.place,TI.zeros,TI.kindOk,zp,Value.cells,ZQ,ZP,t1,ti1,t2,ti2,t3,ti3,t4,ti4,t5,ti5,t22,ti22,t24,ti24,t26,ti26,t27,ti27,t35,ti35,t40,ti40,t50,ti50,t58,ti58,t60,ti60,t63,ti63,t87,ti87,t88,ti88,t90,ti90,t101,ti101,t115,ti115,t117,ti117,t118,ti118,Int.reduceToNat,Nat.reduceSub,Nat.reduceLeDiff] <;> exact rfl) ?_) | (first | (refine st_g0 rfl rfl rfl (by simp only [St.put,Za,Zb] <;> exact rfl) ?_) | (refine st_gu rfl rfl rfl (by simp only [St.put,Za,Zb] <;> exact rfl) ?_))))
    all_goals first | (refine st_gc rfl rfl rfl (by simp only [callOf,St.ev,getD_0,getD_s,pvAll,D.pv?,ZG,ZH,zd,cd,Value.oneCell',Zr] <;> exact rfl) (acK hP (k23)) (by simp only [St.put,Za,Zb] <;> exact rfl) ?_) | (first | (refine st_g0 rfl rfl rfl (by simp only [St.put,Za,Zb] <;> exact rfl) ?_) | (refine st_gu rfl rfl rfl (by simp only [St.put,Za,Zb] <;> exact rfl) ?_)) | (refine st_split rfl rfl rfl (by simp only [Za,Zb] <;> exact rfl) (by simp only [Za,Zb] <;> exact rfl) (fun hg => ?_) (fun hg => ?_) <;> (try simp only [Zp,Zi,ZJ,ZK,ne_eq,Zn,Zm,Bool.not_eq_true,Zu] at hg) <;> first | (refine st_gc rfl rfl rfl (by simp only [callOf,St.ev,getD_0,getD_s,pvAll,D.pv?,ZG,ZH,zd,cd,Value.oneCell',Zr] <;> exact rfl) (acK hP (k23)) (by simp only [St.put,Za,Zb] <;> exact rfl) ?_) | (first | (refine st_g0 rfl rfl rfl (by simp only [St.put,Za,Zb] <;> exact rfl) ?_) | (refine st_gu rfl rfl rfl (by simp only [St.put,Za,Zb] <;> exact rfl) ?_)))
    iterate 2 (refine st_op rfl (by simp (disch := omega) only [stepf,callOf,qop,fop,St.ev,St.put,cd,zd,Value.oneCell',tb_T,TypeDesc.aggB,getD_0,getD_s,Ze,Zd,Zc,Za,Zb,Zr,ZE,ZF,Zf,Zq,Zg,i64_w,Zt,Zs,qBin,iop,Zl,Zo,Zv,Zw,Zj,Zk,Zx,Zy,qLoad,bload,pload,pureAll,D.pure?,ZC,ZD,pvAll,D.pv?,tb_N,tbO_N,tbW_N,tb_O,fBuildSlice,catCells,D.cells?,range_1,range_2,range_3,range_4,range_5,ZG,ZH,ZL,ZM,ZN,sec8_length,Nat.reduceAdd,Nat.reduceMul,tb_W,tbO_W,qBuild,qBuildD,D.cell1,List.all_cons,List.all_nil,bfill,TI.place,TI.zeros,TI.kindOk,zp,Value.cells,ZQ,ZP,t1,ti1,t2,ti2,t3,ti3,t4,ti4,t5,ti5,t22,ti22,t24,ti24,t26,ti26,t27,ti27,t35,ti35,t40,ti40,t50,ti50,t58,ti58,t60,ti60,t63,ti63,t87,ti87,t88,ti88,t90,ti90,t101,ti101,t115,ti115,t117,ti117,t118,ti118,Int.reduceToNat,Nat.reduceSub,Nat.reduceLeDiff] <;> exact rfl) ?_)
    iterate 2 (all_goals first | (refine st_g1 rfl rfl rfl (by simp (disch := omega) only [stepf,callOf,qop,fop,St.ev,St.put,cd,zd,Value.oneCell',tb_T,TypeDesc.aggB,getD_0,getD_s,Ze,Zd,Zc,Za,Zb,Zr,ZE,ZF,Zf,Zq,Zg,i64_w,Zt,Zs,qBin,iop,Zl,Zo,Zv,Zw,Zj,Zk,Zx,Zy,qLoad,bload,pload,pureAll,D.pure?,ZC,ZD,pvAll,D.pv?,tb_N,tbO_N,tbW_N,tb_O,fBuildSlice,catCells,D.cells?,range_1,range_2,range_3,range_4,range_5,ZG,ZH,ZL,ZM,ZN,sec8_length,Nat.reduceAdd,Nat.reduceMul,tb_W,tbO_W,qBuild,qBuildD,D.cell1,List.all_cons,List.all_nil,bfill,TI.place,TI.zeros,TI.kindOk,zp,Value.cells,ZQ,ZP,t1,ti1,t2,ti2,t3,ti3,t4,ti4,t5,ti5,t22,ti22,t24,ti24,t26,ti26,t27,ti27,t35,ti35,t40,ti40,t50,ti50,t58,ti58,t60,ti60,t63,ti63,t87,ti87,t88,ti88,t90,ti90,t101,ti101,t115,ti115,t117,ti117,t118,ti118,Int.reduceToNat,Nat.reduceSub,Nat.reduceLeDiff] <;> exact rfl) ?_) | (first | (refine st_g0 rfl rfl rfl (by simp only [St.put,Za,Zb] <;> exact rfl) ?_) | (refine st_gu rfl rfl rfl (by simp only [St.put,Za,Zb] <;> exact rfl) ?_)) | (refine st_split rfl rfl rfl (by simp only [Za,Zb] <;> exact rfl) (by simp only [Za,Zb] <;> exact rfl) (fun hg => ?_) (fun hg => ?_) <;> (try simp only [Zp,Zi,ZJ,ZK,ne_eq,Zn,Zm,Bool.not_eq_true,Zu] at hg) <;> first | (refine st_g1 rfl rfl rfl (by simp (disch := omega) only [stepf,callOf,qop,fop,St.ev,St.put,cd,zd,Value.oneCell',tb_T,TypeDesc.aggB,getD_0,getD_s,Ze,Zd,Zc,Za,Zb,Zr,ZE,ZF,Zf,Zq,Zg,i64_w,Zt,Zs,qBin,iop,Zl,Zo,Zv,Zw,Zj,Zk,Zx,Zy,qLoad,bload,pload,pureAll,D.pure?,ZC,ZD,pvAll,D.pv?,tb_N,tbO_N,tbW_N,tb_O,fBuildSlice,catCells,D.cells?,range_1,range_2,range_3,range_4,range_5,ZG,ZH,ZL,ZM,ZN,sec8_length,Nat.reduceAdd,Nat.reduceMul,tb_W,tbO_W,qBuild,qBuildD,D.cell1,List.all_cons,List.all_nil,bfill,TI.place,TI.zeros,TI.kindOk,zp,Value.cells,ZQ,ZP,t1,ti1,t2,ti2,t3,ti3,t4,ti4,t5,ti5,t22,ti22,t24,ti24,t26,ti26,t27,ti27,t35,ti35,t40,ti40,t50,ti50,t58,ti58,t60,ti60,t63,ti63,t87,ti87,t88,ti88,t90,ti90,t101,ti101,t115,ti115,t117,ti117,t118,ti118,Int.reduceToNat,Nat.reduceSub,Nat.reduceLeDiff] <;> exact rfl) ?_) | (first | (refine st_g0 rfl rfl rfl (by simp only [St.put,Za,Zb] <;> exact rfl) ?_) | (refine st_gu rfl rfl rfl (by simp only [St.put,Za,Zb] <;> exact rfl) ?_))))
    iterate 2 (refine st_op rfl (by simp (disch := omega) only [stepf,callOf,qop,fop,St.ev,St.put,cd,zd,Value.oneCell',tb_T,TypeDesc.aggB,getD_0,getD_s,Ze,Zd,Zc,Za,Zb,Zr,ZE,ZF,Zf,Zq,Zg,i64_w,Zt,Zs,qBin,iop,Zl,Zo,Zv,Zw,Zj,Zk,Zx,Zy,qLoad,bload,pload,pureAll,D.pure?,ZC,ZD,pvAll,D.pv?,tb_N,tbO_N,tbW_N,tb_O,fBuildSlice,catCells,D.cells?,range_1,range_2,range_3,range_4,range_5,ZG,ZH,ZL,ZM,ZN,sec8_length,Nat.reduceAdd,Nat.reduceMul,tb_W,tbO_W,qBuild,qBuildD,D.cell1,List.all_cons,List.all_nil,bfill,TI.place,TI.zeros,TI.kindOk,zp,Value.cells,ZQ,ZP,t1,ti1,t2,ti2,t3,ti3,t4,ti4,t5,ti5,t22,ti22,t24,ti24,t26,ti26,t27,ti27,t35,ti35,t40,ti40,t50,ti50,t58,ti58,t60,ti60,t63,ti63,t87,ti87,t88,ti88,t90,ti90,t101,ti101,t115,ti115,t117,ti117,t118,ti118,Int.reduceToNat,Nat.reduceSub,Nat.reduceLeDiff] <;> exact rfl) ?_)
    iterate 3 (all_goals first | (refine st_g1 rfl rfl rfl (by simp (disch := omega) only [stepf,callOf,qop,fop,St.ev,St.put,cd,zd,Value.oneCell',tb_T,TypeDesc.aggB,getD_0,getD_s,Ze,Zd,Zc,Za,Zb,Zr,ZE,ZF,Zf,Zq,Zg,i64_w,Zt,Zs,qBin,iop,Zl,Zo,Zv,Zw,Zj,Zk,Zx,Zy,qLoad,bload,pload,pureAll,D.pure?,ZC,ZD,pvAll,D.pv?,tb_N,tbO_N,tbW_N,tb_O,fBuildSlice,catCells,D.cells?,range_1,range_2,range_3,range_4,range_5,ZG,ZH,ZL,ZM,ZN,sec8_length,Nat.reduceAdd,Nat.reduceMul,tb_W,tbO_W,qBuild,qBuildD,D.cell1,List.all_cons,List.all_nil,bfill,TI.place,TI.zeros,TI.kindOk,zp,Value.cells,ZQ,ZP,t1,ti1,t2,ti2,t3,ti3,t4,ti4,t5,ti5,t22,ti22,t24,ti24,t26,ti26,t27,ti27,t35,ti35,t40,ti40,t50,ti50,t58,ti58,t60,ti60,t63,ti63,t87,ti87,t88,ti88,t90,ti90,t101,ti101,t115,ti115,t117,ti117,t118,ti118,Int.reduceToNat,Nat.reduceSub,Nat.reduceLeDiff] <;> exact rfl) ?_) | (first | (refine st_g0 rfl rfl rfl (by simp only [St.put,Za,Zb] <;> exact rfl) ?_) | (refine st_gu rfl rfl rfl (by simp only [St.put,Za,Zb] <;> exact rfl) ?_)) | (refine st_split rfl rfl rfl (by simp only [Za,Zb] <;> exact rfl) (by simp only [Za,Zb] <;> exact rfl) (fun hg => ?_) (fun hg => ?_) <;> (try simp only [Zp,Zi,ZJ,ZK,ne_eq,Zn,Zm,Bool.not_eq_true,Zu] at hg) <;> first | (refine st_g1 rfl rfl rfl (by simp (disch := omega) only [stepf,callOf,qop,fop,St.ev,St.put,cd,zd,Value.oneCell',tb_T,TypeDesc.aggB,getD_0,getD_s,Ze,Zd,Zc,Za,Zb,Zr,ZE,ZF,Zf,Zq,Zg,i64_w,Zt,Zs,qBin,iop,Zl,Zo,Zv,Zw,Zj,Zk,Zx,Zy,qLoad,bload,pload,pureAll,D.pure?,ZC,ZD,pvAll,D.pv?,tb_N,tbO_N,tbW_N,tb_O,fBuildSlice,catCells,D.cells?,range_1,range_2,range_3,range_4,range_5,ZG,ZH,ZL,ZM,ZN,sec8_length,Nat.reduceAdd,Nat.reduceMul,tb_W,tbO_W,qBuild,qBuildD,D.cell1,List.all_cons,List.all_nil,bfill,TI.place,TI.zeros,TI.kindOk,zp,Value.cells,ZQ,ZP,t1,ti1,t2,ti2,t3,ti3,t4,ti4,t5,ti5,t22,ti22,t24,ti24,t26,ti26,t27,ti27,t35,ti35,t40,ti40,t50,ti50,t58,ti58,t60,ti60,t63,ti63,t87,ti87,t88,ti88,t90,ti90,t101,ti101,t115,ti115,t117,ti117,t118,ti118,Int.reduceToNat,Nat.reduceSub,Nat.reduceLeDiff] <;> exact rfl) ?_) | (first | (refine st_g0 rfl rfl rfl (by simp only [St.put,Za,Zb] <;> exact rfl) ?_) | (refine st_gu rfl rfl rfl (by simp only [St.put,Za,Zb] <;> exact rfl) ?_))))
    all_goals first | (refine st_gc rfl rfl rfl (by simp only [callOf,St.ev,getD_0,getD_s,pvAll,D.pv?,ZG,ZH,zd,cd,Value.oneCell',Zr] <;> exact rfl) (acK hP (c63 _ _)) (by simp only [St.put,Za,Zb] <;> exact rfl) ?_) | (first | (refine st_g0 rfl rfl rfl (by simp only [St.put,Za,Zb] <;> exact rfl) ?_) | (refine st_gu rfl rfl rfl (by simp only [St.put,Za,Zb] <;> exact rfl) ?_)) | (refine st_split rfl rfl rfl (by simp only [Za,Zb] <;> exact rfl) (by simp only [Za,Zb] <;> exact rfl) (fun hg => ?_) (fun hg => ?_) <;> (try simp only [Zp,Zi,ZJ,ZK,ne_eq,Zn,Zm,Bool.not_eq_true,Zu] at hg) <;> first | (refine st_gc rfl rfl rfl (by simp only [callOf,St.ev,getD_0,getD_s,pvAll,D.pv?,ZG,ZH,zd,cd,Value.oneCell',Zr] <;> exact rfl) (acK hP (c63 _ _)) (by simp only [St.put,Za,Zb] <;> exact rfl) ?_) | (first | (refine st_g0 rfl rfl rfl (by simp only [St.put,Za,Zb] <;> exact rfl) ?_) | (refine st_gu rfl rfl rfl (by simp only [St.put,Za,Zb] <;> exact rfl) ?_)))
    (all_goals first | (refine st_g1 rfl rfl rfl (by simp (disch := omega) only [stepf,callOf,qop,fop,St.ev,St.put,cd,zd,Value.oneCell',tb_T,TypeDesc.aggB,getD_0,getD_s,Ze,Zd,Zc,Za,Zb,Zr,ZE,ZF,Zf,Zq,Zg,i64_w,Zt,Zs,qBin,iop,Zl,Zo,Zv,Zw,Zj,Zk,Zx,Zy,qLoad,bload,pload,pureAll,D.pure?,ZC,ZD,pvAll,D.pv?,tb_N,tbO_N,tbW_N,tb_O,fBuildSlice,catCells,D.cells?,range_1,range_2,range_3,range_4,range_5,ZG,ZH,ZL,ZM,ZN,sec8_length,Nat.reduceAdd,Nat.reduceMul,tb_W,tbO_W,qBuild,qBuildD,D.cell1,List.all_cons,List.all_nil,bfill,TI.place,TI.zeros,TI.kindOk,zp,Value.cells,ZQ,ZP,t1,ti1,t2,ti2,t3,ti3,t4,ti4,t5,ti5,t22,ti22,t24,ti24,t26,ti26,t27,ti27,t35,ti35,t40,ti40,t50,ti50,t58,ti58,t60,ti60,t63,ti63,t87,ti87,t88,ti88,t90,ti90,t101,ti101,t115,ti115,t117,ti117,t118,ti118,Int.reduceToNat,Nat.reduceSub,Nat.reduceLeDiff] <;> exact rfl) ?_) | (first | (refine st_g0 rfl rfl rfl (by simp only [St.put,Za,Zb] <;> exact rfl) ?_) | (refine st_gu rfl rfl rfl (by simp only [St.put,Za,Zb] <;> exact rfl) ?_)) | (refine st_split rfl rfl rfl (by simp only [Za,Zb] <;> exact rfl) (by simp only [Za,Zb] <;> exact rfl) (fun hg => ?_) (fun hg => ?_) <;> (try simp only [Zp,Zi,ZJ,ZK,ne_eq,Zn,Zm,Bool.not_eq_true,Zu] at hg) <;> first | (refine st_g1 rfl rfl rfl (by simp (disch := omega) only [stepf,callOf,qop,fop,St.ev,St.put,cd,zd,Value.oneCell',tb_T,TypeDesc.aggB,getD_0,getD_s,Ze,Zd,Zc,Za,Zb,Zr,ZE,ZF,Zf,Zq,Zg,i64_w,Zt,Zs,qBin,iop,Zl,Zo,Zv,Zw,Zj,Zk,Zx,Zy,qLoad,bload,pload,pureAll,D.pure?,ZC,ZD,pvAll,D.pv?,tb_N,tbO_N,tbW_N,tb_O,fBuildSlice,catCells,D.cells?,range_1,range_2,range_3,range_4,range_5,ZG,ZH,ZL,ZM,ZN,sec8_length,Nat.reduceAdd,Nat.reduceMul,tb_W,tbO_W,qBuild,qBuildD,D.cell1,List.all_cons,List.all_nil,bfill,TI.place,TI.zeros,TI.kindOk,zp,Value.cells,ZQ,ZP,t1,ti1,t2,ti2,t3,ti3,t4,ti4,t5,ti5,t22,ti22,t24,ti24,t26,ti26,t27,ti27,t35,ti35,t40,ti40,t50,ti50,t58,ti58,t60,ti60,t63,ti63,t87,ti87,t88,ti88,t90,ti90,t101,ti101,t115,ti115,t117,ti117,t118,ti118,Int.reduceToNat,Nat.reduceSub,Nat.reduceLeDiff] <;> exact rfl) ?_) | (first | (refine st_g0 rfl rfl rfl (by simp only [St.put,Za,Zb] <;> exact rfl) ?_) | (refine st_gu rfl rfl rfl (by simp only [St.put,Za,Zb] <;> exact rfl) ?_))))
    all_goals first | (refine st_gc rfl rfl rfl (by simp only [callOf,St.ev,getD_0,getD_s,pvAll,D.pv?,ZG,ZH,zd,cd,Value.oneCell',Zr] <;> exact rfl) (acK hP (k40 _)) (by simp only [St.put,Za,Zb] <;> exact rfl) ?_) | (first | (refine st_g0 rfl rfl rfl (by simp only [St.put,Za,Zb] <;> exact rfl) ?_) | (refine st_gu rfl rfl rfl (by simp only [St.put,Za,Zb] <;> exact rfl) ?_)) | (refine st_split rfl rfl rfl (by simp only [Za,Zb] <;> exact rfl) (by simp only [Za,Zb] <;> exact rfl) (fun hg => ?_) (fun hg => ?_) <;> (try simp only [Zp,Zi,ZJ,ZK,ne_eq,Zn,Zm,Bool.not_eq_true,Zu] at hg) <;> first | (refine st_gc rfl rfl rfl (by simp only [callOf,St.ev,getD_0,getD_s,pvAll,D.pv?,ZG,ZH,zd,cd,Value.oneCell',Zr] <;> exact rfl) (acK hP (k40 _)) (by simp only [St.put,Za,Zb] <;> exact rfl) ?_) | (first | (refine st_g0 rfl rfl rfl (by simp only [St.put,Za,Zb] <;> exact rfl) ?_) | (refine st_gu rfl rfl rfl (by simp only [St.put,Za,Zb] <;> exact rfl) ?_)))
    iterate 2 (refine st_op rfl (by simp (disch := omega) only [stepf,callOf,qop,fop,St.ev,St.put,cd,zd,Value.oneCell',tb_T,TypeDesc.aggB,getD_0,getD_s,Ze,Zd,Zc,Za,Zb,Zr,ZE,ZF,Zf,Zq,Zg,i64_w,Zt,Zs,qBin,iop,Zl,Zo,Zv,Zw,Zj,Zk,Zx,Zy,qLoad,bload,pload,pureAll,D.pure?,ZC,ZD,pvAll,D.pv?,tb_N,tbO_N,tbW_N,tb_O,fBuildSlice,catCells,D.cells?,range_1,range_2,range_3,range_4,range_5,ZG,ZH,ZL,ZM,ZN,sec8_length,Nat.reduceAdd,Nat.reduceMul,tb_W,tbO_W,qBuild,qBuildD,D.cell1,List.all_cons,List.all_nil,bfill,TI.place,TI.zeros,TI.kindOk,zp,Value.cells,ZQ,ZP,t1,ti1,t2,ti2,t3,ti3,t4,ti4,t5,ti5,t22,ti22,t24,ti24,t26,ti26,t27,ti27,t35,ti35,t40,ti40,t50,ti50,t58,ti58,t60,ti60,t63,ti63,t87,ti87,t88,ti88,t90,ti90,t101,ti101,t115,ti115,t117,ti117,t118,ti118,Int.reduceToNat,Nat.reduceSub,Nat.reduceLeDiff] <;> exact rfl) ?_)
    iterate 2 (all_goals first | (refine st_g1 rfl rfl rfl (by simp (disch := omega) only [stepf,callOf,qop,fop,St.ev,St.put,cd,zd,Value.oneCell',tb_T,TypeDesc.aggB,getD_0,getD_s,Ze,Zd,Zc,Za,Zb,Zr,ZE,ZF,Zf,Zq,Zg,i64_w,Zt,Zs,qBin,iop,Zl,Zo,Zv,Zw,Zj,Zk,Zx,Zy,qLoad,bload,pload,pureAll,D.pure?,ZC,ZD,pvAll,D.pv?,tb_N,tbO_N,tbW_N,tb_O,fBuildSlice,catCells,D.cells?,range_1,range_2,range_3,range_4,range_5,ZG,ZH,ZL,ZM,ZN,sec8_length,Nat.reduceAdd,Nat.reduceMul,tb_W,tbO_W,qBuild,qBuildD,D.cell1,List.all_cons,List.all_nil,bfill,TI.place,TI.zeros,TI.kindOk,zp,Value.cells,ZQ,ZP,t1,ti1,t2,ti2,t3,ti3,t4,ti4,t5,ti5,t22,ti22,t24,ti24,t26,ti26,t27,ti27,t35,ti35,t40,ti40,t50,ti50,t58,ti58,t60,ti60,t63,ti63,t87,ti87,t88,ti88,t90,ti90,t101,ti101,t115,ti115,t117,ti117,t118,ti118,Int.reduceToNat,Nat.reduceSub,Nat.reduceLeDiff] <;> exact rfl) ?_) | (first | (refine st_g0 rfl rfl rfl (by simp only [St.put,Za,Zb] <;> exact rfl) ?_) | (refine st_gu rfl rfl rfl (by simp only [St.put,Za,Zb] <;> exact rfl) ?_)) | (refine st_split rfl rfl rfl (by simp only [Za,Zb] <;> exact rfl) (by simp only [Za,Zb] <;> exact rfl) (fun hg => ?_) (fun hg => ?_) <;> (try simp only [Zp,Zi,ZJ,ZK,ne_eq,Zn,Zm,Bool.not_eq_true,Zu] at hg) <;> first | (refine st_g1 rfl rfl rfl (by simp (disch := omega) only [stepf,callOf,qop,fop,St.ev,St.put,cd,zd,Value.oneCell',tb_T,TypeDesc.aggB,getD_0,getD_s,Ze,Zd,Zc,Za,Zb,Zr,ZE,ZF,Zf,Zq,Zg,i64_w,Zt,Zs,qBin,iop,Zl,Zo,Zv,Zw,Zj,Zk,Zx,Zy,qLoad,bload,pload,pureAll,D.pure?,ZC,ZD,pvAll,D.pv?,tb_N,tbO_N,tbW_N,tb_O,fBuildSlice,catCells,D.cells?,range_1,range_2,range_3,range_4,range_5,ZG,ZH,ZL,ZM,ZN,sec8_length,Nat.reduceAdd,Nat.reduceMul,tb_W,tbO_W,qBuild,qBuildD,D.cell1,List.all_cons,List.all_nil,bfill,TI.place,TI.zeros,TI.kindOk,zp,Value.cells,ZQ,ZP,t1,ti1,t2,ti2,t3,ti3,t4,ti4,t5,ti5,t22,ti22,t24,ti24,t26,ti26,t27,ti27,t35,ti35,t40,ti40,t50,ti50,t58,ti58,t60,ti60,t63,ti63,t87,ti87,t88,ti88,t90,ti90,t101,ti101,t115,ti115,t117,ti117,t118,ti118,Int.reduceToNat,Nat.reduceSub,Nat.reduceLeDiff] <;> exact rfl) ?_) | (first | (refine st_g0 rfl rfl rfl (by simp only [St.put,Za,Zb] <;> exact rfl) ?_) | (refine st_gu rfl rfl rfl (by simp only [St.put,Za,Zb] <;> exact rfl) ?_))))
    iterate 2 (refine st_op rfl (by simp (disch := omega) only [stepf,callOf,qop,fop,St.ev,St.put,cd,zd,Value.oneCell',tb_T,TypeDesc.aggB,getD_0,getD_s,Ze,Zd,Zc,Za,Zb,Zr,ZE,ZF,Zf,Zq,Zg,i64_w,Zt,Zs,qBin,iop,Zl,Zo,Zv,Zw,Zj,Zk,Zx,Zy,qLoad,bload,pload,pureAll,D.pure?,ZC,ZD,pvAll,D.pv?,tb_N,tbO_N,tbW_N,tb_O,fBuildSlice,catCells,D.cells?,range_1,range_2,range_3,range_4,range_5,ZG,ZH,ZL,ZM,ZN,sec8_length,Nat.reduceAdd,Nat.reduceMul,tb_W,tbO_W,qBuild,qBuildD,D.cell1,List.all_cons,List.all_nil,bfill,TI.place,TI.zeros,TI.kindOk,zp,Value.cells,ZQ,ZP,t1,ti1,t2,ti2,t3,ti3,t4,ti4,t5,ti5,t22,ti22,t24,ti24,t26,ti26,t27,ti27,t35,ti35,t40,ti40,t50,ti50,t58,ti58,t60,ti60,t63,ti63,t87,ti87,t88,ti88,t90,ti90,t101,ti101,t115,ti115,t117,ti117,t118,ti118,Int.reduceToNat,Nat.reduceSub,Nat.reduceLeDiff] <;> exact rfl) ?_)
    iterate 4 (all_goals first | (refine st_g1 rfl rfl rfl (by simp (disch := omega) only [stepf,callOf,qop,fop,St.ev,St.put,cd,zd,Value.oneCell',tb_T,TypeDesc.aggB,getD_0,getD_s,Ze,Zd,Zc,Za,Zb,Zr,ZE,ZF,Zf,Zq,Zg,i64_w,Zt,Zs,qBin,iop,Zl,Zo,Zv,Zw,Zj,Zk,Zx,Zy,qLoad,bload,pload,pureAll,D.pure?,ZC,ZD,pvAll,D.pv?,tb_N,tbO_N,tbW_N,tb_O,fBuildSlice,catCells,D.cells?,range_1,range_2,range_3,range_4,range_5,ZG,ZH,ZL,ZM,ZN,sec8_length,Nat.reduceAdd,Nat.reduceMul,tb_W,tbO_W,qBuild,qBuildD,D.cell1,List.all_cons,List.all_nil,bfill,TI.place,TI.zeros,TI.kindOk,zp,Value.cells,ZQ,ZP,t1,ti1,t2,ti2,t3,ti3,t4,ti4,t5,ti5,t22,ti22,t24,ti24,t26,ti26,t27,ti27,t35,ti35,t40,ti40,t50,ti50,t58,ti58,t60,ti60,t63,ti63,t87,ti87,t88,ti88,t90,ti90,t101,ti101,t115,ti115,t117,ti117,t118,ti118,Int.reduceToNat,Nat.reduceSub,Nat.reduceLeDiff] <;> exact rfl) ?_) | (first | (refine st_g0 rfl rfl rfl (by simp only [St.put,Za,Zb] <;> exact rfl) ?_) | (refine st_gu rfl rfl rfl (by simp only [St.put,Za,Zb] <;> exact rfl) ?_)) | (refine st_split rfl rfl rfl (by simp only [Za,Zb] <;> exact rfl) (by simp only [Za,Zb] <;> exact rfl) (fun hg => ?_) (fun hg => ?_) <;> (try simp only [Zp,Zi,ZJ,ZK,ne_eq,Zn,Zm,Bool.not_eq_true,Zu] at hg) <;> first | (refine st_g1 rfl rfl rfl (by simp (disch := omega) only [stepf,callOf,qop,fop,St.ev,St.put,cd,zd,Value.oneCell',tb_T,TypeDesc.aggB,getD_0,getD_s,Ze,Zd,Zc,Za,Zb,Zr,ZE,ZF,Zf,Zq,Zg,i64_w,Zt,Zs,qBin,iop,Zl,Zo,Zv,Zw,Zj,Zk,Zx,Zy,qLoad,bload,pload,pureAll,D.pure?,ZC,ZD,pvAll,D.pv?,tb_N,tbO_N,tbW_N,tb_O,fBuildSlice,catCells,D.cells?,range_1,range_2,range_3,range_4,range_5,ZG,ZH,ZL,ZM,ZN,sec8_length,Nat.reduceAdd,Nat.reduceMul,tb_W,tbO_W,qBuild,qBuildD,D.cell1,List.all_cons,List.all_nil,bfill,TI.place,TI.zeros,TI.kindOk,zp,Value.cells,ZQ,ZP,t1,ti1,t2,ti2,t3,ti3,t4,ti4,t5,ti5,t22,ti22,t24,ti24,t26,ti26,t27,ti27,t35,ti35,t40,ti40,t50,ti50,t58,ti58,t60,ti60,t63,ti63,t87,ti87,t88,ti88,t90,ti90,t101,ti101,t115,ti115,t117,ti117,t118,ti118,Int.reduceToNat,Nat.reduceSub,Nat.reduceLeDiff] <;> exact rfl) ?_) | (first | (refine st_g0 rfl rfl rfl (by simp only [St.put,Za,Zb] <;> exact rfl) ?_) | (refine st_gu rfl rfl rfl (by simp only [St.put,Za,Zb] <;> exact rfl) ?_))))
    all_goals first | (refine st_gc rfl rfl rfl (by simp only [callOf,St.ev,getD_0,getD_s,pvAll,D.pv?,ZG,ZH,zd,cd,Value.oneCell',Zr] <;> exact rfl) (acK hP (k40 _)) (by simp only [St.put,Za,Zb] <;> exact rfl) ?_) | (first | (refine st_g0 rfl rfl rfl (by simp only [St.put,Za,Zb] <;> exact rfl) ?_) | (refine st_gu rfl rfl rfl (by simp only [St.put,Za,Zb] <;> exact rfl) ?_)) | (refine st_split rfl rfl rfl (by simp only [Za,Zb] <;> exact rfl) (by simp only [Za,Zb] <;> exact rfl) (fun hg => ?_) (fun hg => ?_) <;> (try simp only [Zp,Zi,ZJ,ZK,ne_eq,Zn,Zm,Bool.not_eq_true,Zu] at hg) <;> first | (refine st_gc rfl rfl rfl (by simp only [callOf,St.ev,getD_0,getD_s,pvAll,D.pv?,ZG,ZH,zd,cd,Value.oneCell',Zr] <;> exact rfl) (acK hP (k40 _)) (by simp only [St.put,Za,Zb] <;> exact rfl) ?_) | (first | (refine st_g0 rfl rfl rfl (by simp only [St.put,Za,Zb] <;> exact rfl) ?_) | (refine st_gu rfl rfl rfl (by simp only [St.put,Za,Zb] <;> exact rfl) ?_)))
    iterate 2 (refine st_op rfl (by simp (disch := omega) only [stepf,callOf,qop,fop,St.ev,St.put,cd,zd,Value.oneCell',tb_T,TypeDesc.aggB,getD_0,getD_s,Ze,Zd,Zc,Za,Zb,Zr,ZE,ZF,Zf,Zq,Zg,i64_w,Zt,Zs,qBin,iop,Zl,Zo,Zv,Zw,Zj,Zk,Zx,Zy,qLoad,bload,pload,pureAll,D.pure?,ZC,ZD,pvAll,D.pv?,tb_N,tbO_N,tbW_N,tb_O,fBuildSlice,catCells,D.cells?,range_1,range_2,range_3,range_4,range_5,ZG,ZH,ZL,ZM,ZN,sec8_length,Nat.reduceAdd,Nat.reduceMul,tb_W,tbO_W,qBuild,qBuildD,D.cell1,List.all_cons,List.all_nil,bfill,TI.place,TI.zeros,TI.kindOk,zp,Value.cells,ZQ,ZP,t1,ti1,t2,ti2,t3,ti3,t4,ti4,t5,ti5,t22,ti22,t24,ti24,t26,ti26,t27,ti27,t35,ti35,t40,ti40,t50,ti50,t58,ti58,t60,ti60,t63,ti63,t87,ti87,t88,ti88,t90,ti90,t101,ti101,t115,ti115,t117,ti117,t118,ti118,Int.reduceToNat,Nat.reduceSub,Nat.reduceLeDiff] <;> exact rfl) ?_)
    iterate 2 (all_goals first | (refine st_g1 rfl rfl rfl (by simp (disch := omega) only [stepf,callOf,qop,fop,St.ev,St.put,cd,zd,Value.oneCell',tb_T,TypeDesc.aggB,getD_0,getD_s,Ze,Zd,Zc,Za,Zb,Zr,ZE,ZF,Zf,Zq,Zg,i64_w,Zt,Zs,qBin,iop,Zl,Zo,Zv,Zw,Zj,Zk,Zx,Zy,qLoad,bload,pload,pureAll,D.pure?,ZC,ZD,pvAll,D.pv?,tb_N,tbO_N,tbW_N,tb_O,fBuildSlice,catCells,D.cells?,range_1,range_2,range_3,range_4,range_5,ZG,ZH,ZL,ZM,ZN,sec8_length,Nat.reduceAdd,Nat.reduceMul,tb_W,tbO_W,qBuild,qBuildD,D.cell1,List.all_cons,List.all_nil,bfill,TI.place,TI.zeros,TI.kindOk,zp,Value.cells,ZQ,ZP,t1,ti1,t2,ti2,t3,ti3,t4,ti4,t5,ti5,t22,ti22,t24,ti24,t26,ti26,t27,ti27,t35,ti35,t40,ti40,t50,ti50,t58,ti58,t60,ti60,t63,ti63,t87,ti87,t88,ti88,t90,ti90,t101,ti101,t115,ti115,t117,ti117,t118,ti118,Int.reduceToNat,Nat.reduceSub,Nat.reduceLeDiff] <;> exact rfl) ?_) | (first | (refine st_g0 rfl rfl rfl (by simp only [St.put,Za,Zb] <;> exact rfl) ?_) | (refine st_gu rfl rfl rfl (by simp only [St.put,Za,Zb] <;> exact rfl) ?_)) | (refine st_split rfl rfl rfl (by simp only [Za,Zb] <;> exact rfl) (by simp only [Za,Zb] <;> exact rfl) (fun hg => ?_) (fun hg => ?_) <;> (try simp only [Zp,Zi,ZJ,ZK,ne_eq,Zn,Zm,Bool.not_eq_true,Zu] at hg) <;> first | (refine st_g1 rfl rfl rfl (by simp (disch := omega) only [stepf,callOf,qop,fop,St.ev,St.put,cd,zd,Value.oneCell',tb_T,TypeDesc.aggB,getD_0,getD_s,Ze,Zd,Zc,Za,Zb,Zr,ZE,ZF,Zf,Zq,Zg,i64_w,Zt,Zs,qBin,iop,Zl,Zo,Zv,Zw,Zj,Zk,Zx,Zy,qLoad,bload,pload,pureAll,D.pure?,ZC,ZD,pvAll,D.pv?,tb_N,tbO_N,tbW_N,tb_O,fBuildSlice,catCells,D.cells?,range_1,range_2,range_3,range_4,range_5,ZG,ZH,ZL,ZM,ZN,sec8_length,Nat.reduceAdd,Nat.reduceMul,tb_W,tbO_W,qBuild,qBuildD,D.cell1,List.all_cons,List.all_nil,bfill,TI.place,TI.zeros,TI.kindOk,zp,Value.cells,ZQ,ZP,t1,ti1,t2,ti2,t3,ti3,t4,ti4,t5,ti5,t22,ti22,t24,ti24,t26,ti26,t27,ti27,t35,ti35,t40,ti40,t50,ti50,t58,ti58,t60,ti60,t63,ti63,t87,ti87,t88,ti88,t90,ti90,t101,ti101,t115,ti115,t117,ti117,t118,ti118,Int.reduceToNat,Nat.reduceSub,Nat.reduceLeDiff] <;> exact rfl) ?_) | (first | (refine st_g0 rfl rfl rfl (by simp only [St.put,Za,Zb] <;> exact rfl) ?_) | (refine st_gu rfl rfl rfl (by simp only [St.put,Za,Zb] <;> exact rfl) ?_))))
    iterate 2 (refine st_op rfl (by simp (disch := omega) only [stepf,callOf,qop,fop,St.ev,St.put,cd,zd,Value.oneCell',tb_T,TypeDesc.aggB,getD_0,getD_s,Ze,Zd,Zc,Za,Zb,Zr,ZE,ZF,Zf,Zq,Zg,i64_w,Zt,Zs,qBin,iop,Zl,Zo,Zv,Zw,Zj,Zk,Zx,Zy,qLoad,bload,pload,pureAll,D.pure?,ZC,ZD,pvAll,D.pv?,tb_N,tbO_N,tbW_N,tb_O,fBuildSlice,catCells,D.cells?,range_1,range_2,range_3,range_4,range_5,ZG,ZH,ZL,ZM,ZN,sec8_length,Nat.reduceAdd,Nat.reduceMul,tb_W,tbO_W,qBuild,qBuildD,D.cell1,List.all_cons,List.all_nil,bfill,TI.place,TI.zeros,TI.kindOk,zp,Value.cells,ZQ,ZP,t1,ti1,t2,ti2,t3,ti3,t4,ti4,t5,ti5,t22,ti22,t24,ti24,t26,ti26,t27,ti27,t35,ti35,t40,ti40,t50,ti50,t58,ti58,t60,ti60,t63,ti63,t87,ti87,t88,ti88,t90,ti90,t101,ti101,t115,ti115,t117,ti117,t118,ti118,Int.reduceToNat,Nat.reduceSub,Nat.reduceLeDiff] <;> exact rfl) ?_)
    iterate 2 (all_goals first | (refine st_g1 rfl rfl rfl (by simp (disch := omega) only [stepf,callOf,qop,fop,St.ev,St.put,cd,zd,Value.oneCell',tb_T,TypeDesc.aggB,getD_0,getD_s,Ze,Zd,Zc,Za,Zb,Zr,ZE,ZF,Zf,Zq,Zg,i64_w,Zt,Zs,qBin,iop,Zl,Zo,Zv,Zw,Zj,Zk,Zx,Zy,qLoad,bload,pload,pureAll,D.pure?,ZC,ZD,pvAll,D.pv?,tb_N,tbO_N,tbW_N,tb_O,fBuildSlice,catCells,D.cells?,range_1,range_2,range_3,range_4,range_5,ZG,ZH,ZL,ZM,ZN,sec8_length,Nat.reduceAdd,Nat.reduceMul,tb_W,tbO_W,qBuild,qBuildD,D.cell1,List.all_cons,List.all_nil,bfill,TI.place,TI.zeros,TI.kindOk,zp,Value.cells,ZQ,ZP,t1,ti1,t2,ti2,t3,ti3,t4,ti4,t5,ti5,t22,ti22,t24,ti24,t26,ti26,t27,ti27,t35,ti35,t40,ti40,t50,ti50,t58,ti58,t60,ti60,t63,ti63,t87,ti87,t88,ti88,t90,ti90,t101,ti101,t115,ti115,t117,ti117,t118,ti118,Int.reduceToNat,Nat.reduceSub,Nat.reduceLeDiff] <;> exact rfl) ?_) | (first | (refine st_g0 rfl rfl rfl (by simp only [St.put,Za,Zb] <;> exact rfl) ?_) | (refine st_gu rfl rfl rfl (by simp only [St.put,Za,Zb] <;> exact rfl) ?_)) | (refine st_split rfl rfl rfl (by simp only [Za,Zb] <;> exact rfl) (by simp only [Za,Zb] <;> exact rfl) (fun hg => ?_) (fun hg => ?_) <;> (try simp only [Zp,Zi,ZJ,ZK,ne_eq,Zn,Zm,Bool.not_eq_true,Zu] at hg) <;> first | (refine st_g1 rfl rfl rfl (by simp (disch := omega) only [stepf,callOf,qop,fop,St.ev,St.put,cd,zd,Value.oneCell',tb_T,TypeDesc.aggB,getD_0,getD_s,Ze,Zd,Zc,Za,Zb,Zr,ZE,ZF,Zf,Zq,Zg,i64_w,Zt,Zs,qBin,iop,Zl,Zo,Zv,Zw,Zj,Zk,Zx,Zy,qLoad,bload,pload,pureAll,D.pure?,ZC,ZD,pvAll,D.pv?,tb_N,tbO_N,tbW_N,tb_O,fBuildSlice,catCells,D.cells?,range_1,range_2,range_3,range_4,range_5,ZG,ZH,ZL,ZM,ZN,sec8_length,Nat.reduceAdd,Nat.reduceMul,tb_W,tbO_W,qBuild,qBuildD,D.cell1,List.all_cons,List.all_nil,bfill,TI.place,TI.zeros,TI.kindOk,zp,Value.cells,ZQ,ZP,t1,ti1,t2,ti2,t3,ti3,t4,ti4,t5,ti5,t22,ti22,t24,ti24,t26,ti26,t27,ti27,t35,ti35,t40,ti40,t50,ti50,t58,ti58,t60,ti60,t63,ti63,t87,ti87,t88,ti88,t90,ti90,t101,ti101,t115,ti115,t117,ti117,t118,ti118,Int.reduceToNat,Nat.reduceSub,Nat.reduceLeDiff] <;> exact rfl) ?_) | (first | (refine st_g0 rfl rfl rfl (by simp only [St.put,Za,Zb] <;> exact rfl) ?_) | (refine st_gu rfl rfl rfl (by simp only [St.put,Za,Zb] <;> exact rfl) ?_))))
    iterate 2 (refine st_op rfl (by simp (disch := omega) only [stepf,callOf,qop,fop,St.ev,St.put,cd,zd,Value.oneCell',tb_T,TypeDesc.aggB,getD_0,getD_s,Ze,Zd,Zc,Za,Zb,Zr,ZE,ZF,Zf,Zq,Zg,i64_w,Zt,Zs,qBin,iop,Zl,Zo,Zv,Zw,Zj,Zk,Zx,Zy,qLoad,bload,pload,pureAll,D.pure?,ZC,ZD,pvAll,D.pv?,tb_N,tbO_N,tbW_N,tb_O,fBuildSlice,catCells,D.cells?,range_1,range_2,range_3,range_4,range_5,ZG,ZH,ZL,ZM,ZN,sec8_length,Nat.reduceAdd,Nat.reduceMul,tb_W,tbO_W,qBuild,qBuildD,D.cell1,List.all_cons,List.all_nil,bfill,TI.place,TI.zeros,TI.kindOk,zp,Value.cells,ZQ,ZP,t1,ti1,t2,ti2,t3,ti3,t4,ti4,t5,ti5,t22,ti22,t24,ti24,t26,ti26,t27,ti27,t35,ti35,t40,ti40,t50,ti50,t58,ti58,t60,ti60,t63,ti63,t87,ti87,t88,ti88,t90,ti90,t101,ti101,t115,ti115,t117,ti117,t118,ti118,Int.reduceToNat,Nat.reduceSub,Nat.reduceLeDiff] <;> exact rfl) ?_)
    iterate 3 (all_goals first | (refine st_g1 rfl rfl rfl (by simp (disch := omega) only [stepf,callOf,qop,fop,St.ev,St.put,cd,zd,Value.oneCell',tb_T,TypeDesc.aggB,getD_0,getD_s,Ze,Zd,Zc,Za,Zb,Zr,ZE,ZF,Zf,Zq,Zg,i64_w,Zt,Zs,qBin,iop,Zl,Zo,Zv,Zw,Zj,Zk,Zx,Zy,qLoad,bload,pload,pureAll,D.pure?,ZC,ZD,pvAll,D.pv?,tb_N,tbO_N,tbW_N,tb_O,fBuildSlice,catCells,D.cells?,range_1,range_2,range_3,range_4,range_5,ZG,ZH,ZL,ZM,ZN,sec8_length,Nat.reduceAdd,Nat.reduceMul,tb_W,tbO_W,qBuild,qBuildD,D.cell1,List.all_cons,List.all_nil,bfill,TI.place,TI.zeros,TI.kindOk,zp,Value.cells,ZQ,ZP,t1,ti1,t2,ti2,t3,ti3,t4,ti4,t5,ti5,t22,ti22,t24,ti24,t26,ti26,t27,ti27,t35,ti35,t40,ti40,t50,ti50,t58,ti58,t60,ti60,t63,ti63,t87,ti87,t88,ti88,t90,ti90,t101,ti101,t115,ti115,t117,ti117,t118,ti118,Int.reduceToNat,Nat.reduceSub,Nat.reduceLeDiff] <;> exact rfl) ?_) | (first | (refine st_g0 rfl rfl rfl (by simp only [St.put,Za,Zb] <;> exact rfl) ?_) | (refine st_gu rfl rfl rfl (by simp only [St.put,Za,Zb] <;> exact rfl) ?_)) | (refine st_split rfl rfl rfl (by simp only [Za,Zb] <;> exact rfl) (by simp only [Za,Zb] <;> exact rfl) (fun hg => ?_) (fun hg => ?_) <;> (try simp only [Zp,Zi,ZJ,ZK,ne_eq,Zn,Zm,Bool.not_eq_true,Zu] at hg) <;> first | (refine st_g1 rfl rfl rfl (by simp (disch := omega) only [stepf,callOf,qop,fop,St.ev,St.put,cd,zd,Value.oneCell',tb_T,TypeDesc.aggB,getD_0,getD_s,Ze,Zd,Zc,Za,Zb,Zr,ZE,ZF,Zf,Zq,Zg,i64_w,Zt,Zs,qBin,iop,Zl,Zo,Zv,Zw,Zj,Zk,Zx,Zy,qLoad,bload,pload,pureAll,D.pure?,ZC,ZD,pvAll,D.pv?,tb_N,tbO_N,tbW_N,tb_O,fBuildSlice,catCells,D.cells?,range_1,range_2,range_3,range_4,range_5,ZG,ZH,ZL,ZM,ZN,sec8_length,Nat.reduceAdd,Nat.reduceMul,tb_W,tbO_W,qBuild,qBuildD,D.cell1,List.all_cons,List.all_nil,bfill,TI.place,TI.zeros,TI.kindOk,zp,Value.cells,ZQ,ZP,t1,ti1,t2,ti2,t3,ti3,t4,ti4,t5,ti5,t22,ti22,t24,ti24,t26,ti26,t27,ti27,t35,ti35,t40,ti40,t50,ti50,t58,ti58,t60,ti60,t63,ti63,t87,ti87,t88,ti88,t90,ti90,t101,ti101,t115,ti115,t117,ti117,t118,ti118,Int.reduceToNat,Nat.reduceSub,Nat.reduceLeDiff] <;> exact rfl) ?_) | (first | (refine st_g0 rfl rfl rfl (by simp only [St.put,Za,Zb] <;> exact rfl) ?_) | (refine st_gu rfl rfl rfl (by simp only [St.put,Za,Zb] <;> exact rfl) ?_))))
    all_goals first | (refine st_gc rfl rfl rfl (by simp only [callOf,St.ev,getD_0,getD_s,pvAll,D.pv?,ZG,ZH,zd,cd,Value.oneCell',Zr] <;> exact rfl) (acK hP (k29)) (by simp only [St.put,Za,Zb] <;> exact rfl) ?_) | (first | (refine st_g0 rfl rfl rfl (by simp only [St.put,Za,Zb] <;> exact rfl) ?_) | (refine st_gu rfl rfl rfl (by simp only [St.put,Za,Zb] <;> exact rfl) ?_)) | (refine st_split rfl rfl rfl (by simp only [Za,Zb] <;> exact rfl) (by simp only [Za,Zb] <;> exact rfl) (fun hg => ?_) (fun hg => ?_) <;> (try simp only [Zp,Zi,ZJ,ZK,ne_eq,Zn,Zm,Bool.not_eq_true,Zu] at hg) <;> first | (refine st_gc rfl rfl rfl (by simp only [callOf,St.ev,getD_0,getD_s,pvAll,D.pv?,ZG,ZH,zd,cd,Value.oneCell',Zr] <;> exact rfl) (acK hP (k29)) (by simp only [St.put,Za,Zb] <;> exact rfl) ?_) | (first | (refine st_g0 rfl rfl rfl (by simp only [St.put,Za,Zb] <;> exact rfl) ?_) | (refine st_gu rfl rfl rfl (by simp only [St.put,Za,Zb] <;> exact rfl) ?_)))
    iterate 2 (refine st_op rfl (by simp (disch := omega) only [stepf,callOf,qop,fop,St.ev,St.put,cd,zd,Value.oneCell',tb_T,TypeDesc.aggB,getD_0,getD_s,Ze,Zd,Zc,Za,Zb,Zr,ZE,ZF,Zf,Zq,Zg,i64_w,Zt,Zs,qBin,iop,Zl,Zo,Zv,Zw,Zj,Zk,Zx,Zy,qLoad,bload,pload,pureAll,D.pure?,ZC,ZD,pvAll,D.pv?,tb_N,tbO_N,tbW_N,tb_O,fBuildSlice,catCells,D.cells?,range_1,range_2,range_3,range_4,range_5,ZG,ZH,ZL,ZM,ZN,sec8_length,Nat.reduceAdd,Nat.reduceMul,tb_W,tbO_W,qBuild,qBuildD,D.cell1,List.all_cons,List.all_nil,bfill,TI.place,TI.zeros,TI.kindOk,zp,Value.cells,ZQ,ZP,t1,ti1,t2,ti2,t3,ti3,t4,ti4,t5,ti5,t22,ti22,t24,ti24,t26,ti26,t27,ti27,t35,ti35,t40,ti40,t50,ti50,t58,ti58,t60,ti60,t63,ti63,t87,ti87,t88,ti88,t90,ti90,t101,ti101,t115,ti115,t117,ti117,t118,ti118,Int.reduceToNat,Nat.reduceSub,Nat.reduceLeDiff] <;> exact rfl) ?_)
    refine aops_nil ?_
    exact hK
  refine exq_n ?_
  refine aw_ret ?_
  exact ret_r rfl (resOf_one rfl rfl)
end Go.Proofs.Ytldcoekbgfaomaa
end
section
namespace Go.Proofs.Ytldcoekbgfaomaa
open Go.RowKit Go.ChangeShapes Go.WideShapes
section
variable {H : Type} {enc : TypeId × Value → H} {W : World}
/-- All that is there. -/
def AllC (W : World) (g : Nat) : Prop := g < W.heap.size
theorem list3 {α : Type} : ∀ {l : List α}, l.length = 3 → ∃ a b c, l = [a, b, c]
  | [a, b, c], _ => ⟨a, b, c, rfl⟩
theorem opn_sl {α : Type} (F : α → List P1) (k : Nat) (hF : ∀ a, (F a).length = k) (hk0 : 0 < k) {t e : TypeId} (ht : Try.prog.underlying t = some (.slice e)) (hk : Try.prog.cellsOf e = k)
    (hE : ∀ (n : Nat) (cs : List Value) (x : DataW H × List MemPlace), DataW.trod enc Try.prog W 0 (fun _ => true) true n e cs = some x → cs.length = k → ∃ a : α, ∀ (j : Nat) (y : P1) (u : Value), (F a)[j]? = some y → cs[j]? = some u → R1 W (AllC W) y u)
    {n : Nat} {v : Value} {x : DataW H × List MemPlace} (h : DataW.trod enc Try.prog W 0 (fun _ => true) true n t [v] = some x) : ∃ l : List α, R1 W (AllC W) (.sl l.length (l.flatMap F)) v := by
  rcases Go.Deep.open_slice ht h with ⟨hv, _⟩ | ⟨a, len, cap, m, fu, D, Pl, hv, _, hl, hm, hmm, _, hel⟩
  · simp only [List.cons.injEq,Zs] at hv
    subst hv
    exact ⟨[], .nil _ _⟩
  · simp only [List.cons.injEq,Zs] at hv
    subst hv
    simp only [Zr] at hmm
    subst hmm
    have key : ∀ q, q ≤ len → ∃ (l : List α) (us : List Value), l.length = q ∧ us.length = q * k ∧ (∀ (j : Nat) (u : Value), us[j]? = some u → W.cell? (a.add j) = some u) ∧
        ∀ (j : Nat) (y : P1) (u : Value), (l.flatMap F)[j]? = some y → us[j]? = some u → R1 W (AllC W) y u := by
      intro q
      induction q with
      | zero => exact fun _ => ⟨[], [], rfl, by simp, fun j u h => by simp at h, fun j y u h => by simp at h⟩
      | succ q ih =>
        intro hq
        obtain ⟨l, us, h1, h2, h3, h4⟩ := ih (by omega)
        obtain ⟨cs, c1, c2⟩ := hel q (by omega)
        rw [hk] at c1
        obtain ⟨_, c3, c4⟩ := World.cells?_some c1
        obtain ⟨al, ha⟩ := hE fu cs _ c2 c3
        have hfl : (l.flatMap F).length = q * k := by rw [flat_length F k hF, h1]
        refine ⟨l ++ [al], us ++ cs, by simp [h1], by rw [List.length_append, h2, c3, Nat.succ_mul], fun j u hu => ?_, fun j y u hy hu => ?_⟩
        · rw [List.getElem?_append] at hu
          split at hu
          · exact h3 j u hu
          · rename_i hj
            have hlt := (List.getElem?_eq_some_iff.1 hu).1
            have := c4 (j - us.length) (by omega)
            rw [hu, Go.Deep.add_add, show q * k + (j - us.length) = j from by omega] at this
            exact this
        · rw [List.flatMap_append, List.getElem?_append, hfl] at hy
          rw [List.getElem?_append, h2] at hu
          split at hy
          · rename_i hj
            rw [if_pos hj] at hu
            exact h4 j y u hy hu
          · rename_i hj
            rw [if_neg hj] at hu
            exact ha _ y u (by simpa using hy) hu
    obtain ⟨l, us, h1, h2, h3, h4⟩ := key len (Nat.le_refl _)
    refine ⟨l, ?_⟩
    rw [h1]
    rcases Nat.eq_zero_or_pos len with h0 | h0
    · subst h0
      rw [List.length_eq_zero_iff.1 h1]
      exact .nil _ _
    · have hp : 0 < us.length := by rw [h2]; exact Nat.mul_pos h0 hk0
      have hc := h3 0 us[0] (List.getElem?_eq_getElem hp)
      have hspot : a.spot = none := by
        have e : a.add 0 = a := by unfold Addr.add; simp
        rw [e] at hc
        unfold World.cell? at hc
        split at hc
        · split at hc
          · cases hc
          · rename_i hs
            cases hsp : a.spot with
            | none => rfl
            | some s => rw [hsp] at hs; simp at hs
        · cases hc
      obtain ⟨g, o, sp⟩ := a
      simp only at hspot
      subst hspot
      refine .sl len g o _ _ us hl hm ?_ (by rw [h2, flat_length F k hF, h1]) (fun j u hu => by have := h3 j u hu; rwa [add_lit] at this) h4
      exact World.block_lt_of_cell? W _ hc
theorem opn_int {t : TypeId} {k : IntKind} (ht : Try.prog.underlying t = some (.int k)) {n : Nat} {cs : List Value} {x : DataW H × List MemPlace} (h : DataW.trod enc Try.prog W 0 (fun _ => true) true n t cs = some x) : ∃ m, cs = [.int k m] := by
  obtain ⟨m, hm, _⟩ := DataW.trod_int ht h
  exact ⟨m, hm⟩
theorem opn_ints {t e : TypeId} {k : IntKind} (ht : Try.prog.underlying t = some (.slice e)) (he : Try.prog.underlying e = some (.int k)) (hc : Try.prog.cellsOf e = 1) {n : Nat} {v : Value} {x : DataW H × List MemPlace} (h : DataW.trod enc Try.prog W 0 (fun _ => true) true n t [v] = some x) :
    ∃ l : List Int, R1 W (AllC W) (.sl l.length (l.map fun a => .v (.int k a))) v := by
  obtain ⟨l, hl⟩ := opn_sl (fun a : Int => [P1.v (.int k a)]) 1 (fun _ => rfl) (by omega) ht hc (fun n cs x hx _ => by
    obtain ⟨m, rfl⟩ := opn_int he hx
    refine ⟨m, fun j y u hy hu => ?_⟩
    cases j with
    | zero => simp at hy hu; subst hy; subst hu; exact .v _ rfl
    | succ j => simp at hy) h
  refine ⟨l, ?_⟩
  have e : l.flatMap (fun a : Int => [P1.v (.int k a)]) = l.map fun a => .v (.int k a) := by
    clear hl
    induction l with
    | nil => rfl
    | cons a l ih => exact congrArg (P1.v (.int k a) :: ·) ih
  rwa [e] at hl
theorem opn_sec {n : Nat} {cs : List Value} {x : DataW H × List MemPlace} (h : DataW.trod enc Try.prog W 0 (fun _ => true) true n 50 cs = some x) : ∃ s : List Int, ∀ (j : Nat) (y : P1) (u : Value), (sec8 s)[j]? = some y → cs[j]? = some u → R1 W (AllC W) y u := by
  obtain ⟨xs, m, _, _, hl, hxl, hel⟩ := DataW.trod_array Try.underlying50 h
  have c5 : Try.prog.cellsOf 5 = 1 := by kernel_rfl
  have c50 : Try.prog.cellsOf 50 = 8 := by kernel_rfl
  have each : ∀ i, i < 8 → ∃ z, cs[i]? = some (.int .u8 z) := by
    intro i hi
    have := hel i hi
    rw [c5, Nat.mul_one, List.getElem?_eq_getElem (by omega)] at this
    obtain ⟨z, hz⟩ := opn_int Try.underlying5 this
    refine ⟨z, ?_⟩
    have h1 := congrArg (fun l => l[0]?) hz
    simp only [List.getElem?_take,List.getElem?_drop,ZD] at h1
    simpa using h1
  refine ⟨cs.map fun u => match u with | .int _ z => z | _ => 0, fun j y u hy hu => ?_⟩
  have hj : j < 8 := by have := (List.getElem?_eq_some_iff.1 hu).1; omega
  obtain ⟨z, hz⟩ := each j hj
  rw [hu] at hz
  injection hz with hz
  subst hz
  rw [sec8_at _ _ hj] at hy
  injection hy with hy
  subst hy
  rw [List.getD_eq_getElem?_getD, List.getElem?_map, hu]
  exact .v _ rfl
theorem opn_secs {n : Nat} {v : Value} {x : DataW H × List MemPlace} (h : DataW.trod enc Try.prog W 0 (fun _ => true) true n 22 [v] = some x) : ∃ l : List (List Int), R1 W (AllC W) (secs l) v :=
  opn_sl sec8 8 sec8_length (by omega) Try.underlying22 (by kernel_rfl) (fun n cs x hx _ => opn_sec hx) h
theorem opn_lvls {n : Nat} {v : Value} {x : DataW H × List MemPlace} (h : DataW.trod enc Try.prog W 0 (fun _ => true) true n 24 [v] = some x) : ∃ l : List (List Int), R1 W (AllC W) (lvls l) v := by
  obtain ⟨l, hl⟩ := opn_sl (fun a : List Int => [u64s a]) 1 (fun _ => rfl) (by omega) Try.underlying24 (by kernel_rfl) (fun n cs x hx hc => by
    match cs, hc with
    | [u], _ =>
    obtain ⟨r, hr⟩ := opn_ints Try.underlying60 Try.underlying58 (by kernel_rfl) hx
    refine ⟨r, fun j y u' hy hu => ?_⟩
    cases j with
    | zero => simp at hy hu; subst hy; subst hu; exact hr
    | succ j => simp at hy) h
  refine ⟨l, ?_⟩
  have e : ∀ l : List (List Int), l.flatMap (fun a : List Int => [u64s a]) = l.map u64s := by
    intro l
    induction l with
    | nil => rfl
    | cons a l ih => simp only [List.flatMap_cons,ZG,ZL,ZM,ih]
  rwa [e] at hl
theorem opn_tree {n : Nat} {cs : List Value} {x : DataW H × List MemPlace} (h : DataW.trod enc Try.prog W 0 (fun _ => true) true n 26 cs = some x) : ∃ t : Tr, RV W (AllC W) (trP t) (.agg cs.toArray) := by
  obtain ⟨xs, m, _, _, hl, hxl, hel⟩ := DataW.trod_struct Try.underlying26 h
  have c3 : Try.prog.cellsOf 3 = 1 := by kernel_rfl
  have c24 : Try.prog.cellsOf 24 = 1 := by kernel_rfl
  have c26 : Try.prog.cellsOf 26 = 3 := by kernel_rfl
  rw [c26] at hl
  obtain ⟨u0, u1, u2, rfl⟩ := list3 hl
  have h0 : DataW.trod enc Try.prog W 0 (fun _ => true) true m 3 (([u0, u1, u2].drop 0).take (Try.prog.cellsOf 3)) = xs[0]? := hel 0 _ rfl
  have h1 : DataW.trod enc Try.prog W 0 (fun _ => true) true m 3 (([u0, u1, u2].drop 1).take (Try.prog.cellsOf 3)) = xs[1]? := hel 1 _ rfl
  have h2 : DataW.trod enc Try.prog W 0 (fun _ => true) true m 24 (([u0, u1, u2].drop 2).take (Try.prog.cellsOf 24)) = xs[2]? := hel 2 _ rfl
  have hx2 : xs.length = 3 := hxl
  rw [List.getElem?_eq_getElem (by omega)] at h0 h1 h2
  rw [c3] at h0 h1
  rw [c24] at h2
  obtain ⟨z0, e0⟩ := opn_int Try.underlying3 h0
  obtain ⟨z1, e1⟩ := opn_int Try.underlying3 h1
  obtain ⟨l, hlv⟩ := opn_lvls (show DataW.trod enc Try.prog W 0 (fun _ => true) true m 24 [u2] = some _ from h2)
  simp at e0 e1
  subst e0
  subst e1
  refine ⟨⟨z0, z1, l⟩, .agg _ [.int .i64 z0, .int .i64 z1, u2] rfl fun j y u hy hu => ?_⟩
  match j with
  | 0 => simp at hy hu; subst hy; subst hu; exact .v _ rfl
  | 1 => simp at hy hu; subst hy; subst hu; exact .v _ rfl
  | 2 => simp at hy hu; subst hy; subst hu; exact hlv
  | j + 3 => simp at hy
end
theorem rvs_nil {W : World} {C : Nat → Prop} : RVs W C [] [] := ⟨rfl, fun j d u h => by simp at h⟩
theorem rvs_cons {W : World} {C : Nat → Prop} {d : PV} {v : Value} {ds : List PV} {vs : List Value} (h : RV W C d v) (hs : RVs W C ds vs) : RVs W C (d :: ds) (v :: vs) := by
  refine ⟨by simp [hs.1], fun j x u hx hu => ?_⟩
  cases j with
  | zero => simp at hx hu; subst hx; subst hu; exact h
  | succ j => exact hs.2 j x u (by simpa using hx) (by simpa using hu)
theorem rv_tree {H : Type} {enc : TypeId × Value → H} {W : World} {cs : Array Value} {d : DataW H} {p : List MemPlace} (h : DataW.Trod enc Try.prog W 0 (fun _ => true) true 26 (.agg cs) d p) : ∃ t : Tr, RV W (AllC W) (trP t) (.agg cs) := by
  obtain ⟨m, hm⟩ := h
  exact opn_tree (show DataW.trod enc Try.prog W 0 (fun _ => true) true m 26 cs.toList = some _ from hm)
/-- From a contract to the row's call. -/
theorem row_call {f : FuncId} {ds : List PV} (h : ACalls Try.prog f ds (.p (bv true))) {W : World} {vs : List Value} (hv : RVs W (AllC W) ds vs) :
    Calls Try.prog f vs.toArray W fun e W' => e = .returned (.bool true) ∧ Below W.heap.size W W' := by
  refine ((callsIn_wide (n := 0)).1 (h.h Fence.wide 0 (AllC W) W vs ⟨fun _ => trivial, rfl, rfl⟩ rfl (fun _ hg => hg) hv)).mono ?_
  rintro e W' ⟨v, rfl, hr, hg⟩
  exact ⟨by rw [rd_v hr], hg.os, hg.tape, hg.output, hg.size, fun k hk => hg.block k hk (by simp)⟩
theorem row_lt {H : Type} {enc : TypeId × Value → H} {W : World} {t : TypeId} {v : Value} {d : DataW H} {p : List MemPlace} (h : DataW.Trod enc Try.prog W 0 (fun _ => true) true t v d p) : ∀ x ∈ p, x.block < W.heap.size := by
  obtain ⟨m, hm⟩ := h
  exact DataW.trod_lt m _ _ _ hm
end Go.Proofs.Ytldcoekbgfaomaa
end
section
namespace Go.Proofs.Ytldcoekbgfaomaa
open Go.RowKit
/-- Is the tree small enough for the law? -/
def fewB (t : Tr) : Bool := decide (t.lv.length ≤ 12 ∧ t.size ≤ 100 ∧ ∀ r ∈ t.lv, r.length ≤ 100)
theorem c24b (t : Tr) : ACalls Try.prog 24 [trP t] (.p (bv (fewB t))) := c24 t
theorem k40t (l : List Int) : ACalls Try.prog 40 [.p (u64s l), .p (u64s l)] (.p (bv true)) := by
  have := c40 l l
  rwa [show decide _ = true from decide_eq_true rfl] at this
end Go.Proofs.Ytldcoekbgfaomaa
end
section
namespace Go.Proofs.Ytldcoekbgfaomaa
open Go.RowKit Go.ChangeShapes Go.WideShapes
/-- What a proof of a leaf is asked with. -/
structure VIn where
  root : Int
  size : Int
  leaf : Int
  index : Int
  data : List (List Int)
  proof : List Int
theorem list6 {α : Type} : ∀ {l : List α}, l.length = 6 → ∃ a b c d e f, l = [a, b, c, d, e, f]
  | [a, b, c, d, e, f], _ => ⟨a, b, c, d, e, f, rfl⟩
theorem wf_i64 {n : Int} (h : (Lit.int .i64 n).wf = true) : -9223372036854775808 ≤ n ∧ n ≤ 9223372036854775807 := by
  simp [Lit.wf, IntKind.min, IntKind.max, IntKind.signed, IntKind.bits] at h
  omega
theorem opn_intw {H : Type} {enc : TypeId × Value → H} {W : World} {t : TypeId} {k : IntKind} (ht : Try.prog.underlying t = some (.int k)) {n : Nat} {cs : List Value} {x : DataW H × List MemPlace} (h : DataW.trod enc Try.prog W 0 (fun _ => true) true n t cs = some x) : ∃ m, cs = [.int k m] ∧ (Lit.int k m).wf = true := by
  obtain ⟨m, hm, _, hw⟩ := DataW.trod_int ht h
  exact ⟨m, hm, hw⟩
theorem rv_vin {H : Type} {enc : TypeId × Value → H} {W : World} {cs : Array Value} {d : DataW H} {p : List MemPlace} (h : DataW.Trod enc Try.prog W 0 (fun _ => true) true 63 (.agg cs) d p) : ∃ v : VIn, RV W (AllC W) (.agg [u64 v.root, i64 v.size, i64 v.leaf, i64 v.index, secs v.data, u64s v.proof]) (.agg cs) ∧ (-9223372036854775808 ≤ v.index ∧ v.index ≤ 9223372036854775807) := by
  obtain ⟨n, h⟩ := h
  obtain ⟨l⟩ := cs
  obtain ⟨xs, m, _, _, hl, hxl, hel⟩ := DataW.trod_struct Try.underlying63 (show DataW.trod enc Try.prog W 0 (fun _ => true) true n 63 l = some _ from h)
  have c63 : Try.prog.cellsOf 63 = 6 := by kernel_rfl
  rw [c63] at hl
  obtain ⟨u0, u1, u2, u3, u4, u5, rfl⟩ := list6 hl
  have hx2 : xs.length = 6 := hxl
  have h0 : DataW.trod enc Try.prog W 0 (fun _ => true) true m 58 (([u0, u1, u2, u3, u4, u5].drop 0).take (Try.prog.cellsOf 58)) = xs[0]? := hel 0 _ rfl
  rw [List.getElem?_eq_getElem (by omega), show Try.prog.cellsOf 58 = 1 by kernel_rfl] at h0
  have h1 : DataW.trod enc Try.prog W 0 (fun _ => true) true m 3 (([u0, u1, u2, u3, u4, u5].drop 1).take (Try.prog.cellsOf 3)) = xs[1]? := hel 1 _ rfl
  rw [List.getElem?_eq_getElem (by omega), show Try.prog.cellsOf 3 = 1 by kernel_rfl] at h1
  have h2 : DataW.trod enc Try.prog W 0 (fun _ => true) true m 3 (([u0, u1, u2, u3, u4, u5].drop 2).take (Try.prog.cellsOf 3)) = xs[2]? := hel 2 _ rfl
  rw [List.getElem?_eq_getElem (by omega), show Try.prog.cellsOf 3 = 1 by kernel_rfl] at h2
  have h3 : DataW.trod enc Try.prog W 0 (fun _ => true) true m 3 (([u0, u1, u2, u3, u4, u5].drop 3).take (Try.prog.cellsOf 3)) = xs[3]? := hel 3 _ rfl
  rw [List.getElem?_eq_getElem (by omega), show Try.prog.cellsOf 3 = 1 by kernel_rfl] at h3
  have h4 : DataW.trod enc Try.prog W 0 (fun _ => true) true m 22 (([u0, u1, u2, u3, u4, u5].drop 4).take (Try.prog.cellsOf 22)) = xs[4]? := hel 4 _ rfl
  rw [List.getElem?_eq_getElem (by omega), show Try.prog.cellsOf 22 = 1 by kernel_rfl] at h4
  have h5 : DataW.trod enc Try.prog W 0 (fun _ => true) true m 60 (([u0, u1, u2, u3, u4, u5].drop 5).take (Try.prog.cellsOf 60)) = xs[5]? := hel 5 _ rfl
  rw [List.getElem?_eq_getElem (by omega), show Try.prog.cellsOf 60 = 1 by kernel_rfl] at h5
  obtain ⟨z0, e0, w0⟩ := opn_intw Try.underlying58 h0
  simp at e0
  subst e0
  obtain ⟨z1, e1, w1⟩ := opn_intw Try.underlying3 h1
  simp at e1
  subst e1
  obtain ⟨z2, e2, w2⟩ := opn_intw Try.underlying3 h2
  simp at e2
  subst e2
  obtain ⟨z3, e3, w3⟩ := opn_intw Try.underlying3 h3
  simp at e3
  subst e3
  obtain ⟨z4, r4⟩ := opn_secs (show DataW.trod enc Try.prog W 0 (fun _ => true) true m 22 [u4] = some _ from h4)
  obtain ⟨z5, r5⟩ := opn_ints Try.underlying60 Try.underlying58 (by kernel_rfl) (show DataW.trod enc Try.prog W 0 (fun _ => true) true m 60 [u5] = some _ from h5)
  refine ⟨⟨z0, z1, z2, z3, z4, z5⟩, .agg _ [.int .u64 z0, .int .i64 z1, .int .i64 z2, .int .i64 z3, u4, u5] rfl fun j y u hy hu => ?_, wf_i64 w3⟩
  match j with
  | 0 => simp at hy hu; subst hy; subst hu; exact .v _ rfl
  | 1 => simp at hy hu; subst hy; subst hu; exact .v _ rfl
  | 2 => simp at hy hu; subst hy; subst hu; exact .v _ rfl
  | 3 => simp at hy hu; subst hy; subst hu; exact .v _ rfl
  | 4 => simp at hy hu; subst hy; subst hu; exact r4
  | 5 => simp at hy hu; subst hy; subst hu; exact r5
  | j + 6 => simp at hy
end Go.Proofs.Ytldcoekbgfaomaa
end
