/- Walks and laws of this claim, part Rr. -/
import Derived.Test.YtjoniieoaokimaaGreatVLw4
set_option linter.unusedVariables false
set_option linter.unusedSimpArgs false
set_option linter.unusedSectionVars false
set_option autoImplicit true
set_option relaxedAutoImplicit true
set_option maxRecDepth 100000
set_option maxHeartbeats 1000000
namespace Go.Proofs
open V
theorem y_eqlBool {P : Program} {E : Env} {S : World → Prop} {x y : Operand} {a b : Bool} {T U : TypeId} (hT : P.underlying T = some .bool) (hx : val E x = some (.bool a)) (hy : val E y = some (.bool b)) : Yl P S E (.binOp .eql T x y U) (.bool (decide (a = b))) :=
  y_bin hx hy (fun w => by
    have := eq_bool (P := P) (d := 9999) (a := a) (b := b) hT w
    simp only [binOp, equal_is, Sem.run_bind, this, Result.andThen_ok, pure]; rfl) (.inr ⟨by simp, by simp⟩)

theorem RelayRules_bad (r : Rl) (hc : ¬ checkR r = 0) : Pure Tryz.prog 4 [vRl r] (.bool true) := by
  intro w
  refine begin0 Tryz.func4 rfl Tryz.ntmps4 rfl ?_
  refine c_seq ?_
  refine c_region ?_
  refine seqq (o_box (T := 30) rfl (IsP.agg).cells rfl (fun b1 => ?_))
  refine seqq (o_y (y_assign rfl) rfl ?_)
  refine c_nil ?_
  refine c_seq ?_
  refine c_region ?_
  refine seqq (o_y (lN Tryz.isAgg30 Tryz.sizeOf30 rfl (by rfl)) rfl ?_)
  refine seqq (o_pure Tryz.call19 rfl (relay_New_bad r hc) rfl ?_)
  refine seqq (o_y (y_move rfl) rfl ?_)
  refine seqq (o_y (y_extract rfl rfl) rfl ?_)
  refine seqq (o_y (y_extract rfl rfl) rfl ?_)
  refine seqq (o_y (y_assign rfl) rfl ?_)
  refine seqq (o_y (y_assign rfl) rfl ?_)
  refine c_nil ?_
  refine c_seq ?_
  refine c_region ?_
  refine seqq (o_pure Tryz.call20 rfl (law_lives) rfl ?_)
  refine seqq (o_y (y_move rfl) rfl ?_)
  refine seqq (guard_true rfl rfl (o_y (y_move rfl) rfl ?_))
  refine seqq (guard_true rfl rfl (o_y (lN Tryz.isAgg30 Tryz.sizeOf30 rfl (by rfl)) rfl ?_))
  refine seqq (guard_true rfl rfl (o_pure Tryz.call21 rfl (adj_Check _) rfl ?_))
  refine seqq (guard_true rfl rfl (o_y (y_eqlZ rfl rfl) rfl ?_))
  refine j_re 15 rfl (V.decT rfl) ?_
  refine seqq (o_y (y_pick_t rfl rfl) rfl ?_)
  refine seqq (o_y (y_move rfl) rfl ?_)
  refine seqq (guard_true rfl rfl (o_y (y_move rfl) rfl ?_))
  refine seqq (guard_true rfl rfl (o_y (y_eqlNilPk (v := true) Tryz.runUnderlying60 rfl rfl rfl) rfl ?_))
  refine seqq (guard_true rfl rfl (o_y (y_move rfl) rfl ?_))
  refine seqq (guard_true rfl rfl (o_y (y_neqZ rfl rfl) rfl ?_))
  refine j_re 21 rfl (V.decNT hc) ?_
  refine seqq (guard_true rfl rfl (o_y (y_eqlBool Tryz.underlying4 rfl rfl) rfl ?_))
  refine j_re 22 rfl (V.decT rfl) ?_
  refine seqq (o_y (y_pick_t rfl rfl) rfl ?_)
  refine seqq (o_y (y_assign rfl) rfl ?_)
  refine c_nil ?_
  refine c_ret ?_
  refine c_done1 Tryz.results4 (.tmp rfl) (fun w hS => ?_)
  exact ⟨rfl, hS.none⟩

theorem RelayRules_good (r : Rl) (hc : checkR r = 0) : Pure Tryz.prog 4 [vRl r] (.bool true) := by
  intro w
  refine begin0 Tryz.func4 rfl Tryz.ntmps4 rfl ?_
  refine c_seq ?_
  refine c_region ?_
  refine seqq (o_box (T := 30) rfl (IsP.agg).cells rfl (fun b1 => ?_))
  refine seqq (o_y (y_assign rfl) rfl ?_)
  refine c_nil ?_
  refine c_seq ?_
  refine c_region ?_
  refine seqq (o_y (lN Tryz.isAgg30 Tryz.sizeOf30 rfl (by rfl)) rfl ?_)
  refine seqq (o_new5 (X := Nat × Tr) (v := fun x => .tuple #[.pointer (some ⟨x.1, 0, none⟩), vI 0]) (p := fun x => x.2.ok ∧ x.2.s = newS (r)) (A := fun x => [(x.1, obj 124 (reP x.2.r x.2.bt 0))]) (B := fun x => [(x.2.bt, obj 91 (trP x.2))]) (C := fun x => [(x.2.bm, mObT x.2.bs x.2.L)]) (A' := fun x => [(x.2.bc, chOb x.2.bs x.2.ch x.2.sp)]) (B' := fun x => ndSeg x.2.bs x.2.L) Tryz.call19 rfl rfl (fun w _ => relay_New (r) hc w) (fun x hx => ?_))
  refine seqq (o_y (y_move rfl) rfl ?_)
  refine seqq (o_y (y_extract rfl rfl) rfl ?_)
  refine seqq (o_y (y_extract rfl rfl) rfl ?_)
  refine seqq (o_y (y_assign rfl) rfl ?_)
  refine seqq (o_y (y_assign rfl) rfl ?_)
  refine c_nil ?_
  refine c_seq ?_
  refine c_region ?_
  refine seqq (o_pure Tryz.call20 rfl (law_lives) rfl ?_)
  refine seqq (o_y (y_move rfl) rfl ?_)
  refine seqq (guard_true rfl rfl (o_y (y_move rfl) rfl ?_))
  refine seqq (guard_true rfl rfl (o_y (lN Tryz.isAgg30 Tryz.sizeOf30 rfl (by rfl)) rfl ?_))
  refine seqq (guard_true rfl rfl (o_pure Tryz.call21 rfl (adj_Check _) rfl ?_))
  refine seqq (guard_true rfl rfl (o_y (y_eqlZ rfl rfl) rfl ?_))
  refine j_re 15 rfl (V.decT hc.symm) ?_
  refine seqq (o_y (y_pick_t rfl rfl) rfl ?_)
  refine seqq (o_y (y_move rfl) rfl ?_)
  refine seqq (guard_true rfl rfl (o_y (y_move rfl) rfl ?_))
  refine seqq (guard_true rfl rfl (o_y (y_eqlNilPk (v := false) Tryz.runUnderlying60 rfl rfl rfl) rfl ?_))
  refine seqq (guard_true rfl rfl (o_y (y_move rfl) rfl ?_))
  refine seqq (guard_true rfl rfl (o_y (y_neqZ rfl rfl) rfl ?_))
  refine j_re 21 rfl (V.decNF rfl) ?_
  refine seqq (guard_true rfl rfl (o_y (y_eqlBool Tryz.underlying4 rfl rfl) rfl ?_))
  refine j_re 22 rfl (V.decT rfl) ?_
  refine seqq (o_y (y_pick_t rfl rfl) rfl ?_)
  refine seqq (o_y (y_assign rfl) rfl ?_)
  refine c_nil ?_
  refine c_ret ?_
  refine c_done1 Tryz.results4 (.tmp rfl) (fun w hS => ?_)
  exact ⟨rfl, hS.none⟩

theorem RelayRules_all (r : Rl) : Pure Tryz.prog 4 [vRl r] (.bool true) := by
  by_cases hc : checkR r = 0
  · exact RelayRules_good r hc
  · exact RelayRules_bad r hc
