/- Walks and laws of this claim, part Sbm. -/
import Derived.Test.YtjoniieoaokimaaGreatVSty
set_option linter.unusedVariables false
set_option linter.unusedSimpArgs false
set_option linter.unusedSectionVars false
set_option autoImplicit true
set_option relaxedAutoImplicit true
set_option maxRecDepth 100000
set_option maxHeartbeats 1000000
namespace Go.Proofs
open V
theorem y_neqBool {P : Program} {E : Env} {S : World → Prop} {x y : Operand} {a b : Bool} {T U : TypeId} (hT : P.underlying T = some .bool) (hx : val E x = some (.bool a)) (hy : val E y = some (.bool b)) : Yl P S E (.binOp .neq T x y U) (.bool (!decide (a = b))) :=
  y_bin hx hy (fun w => by
    have := eq_bool (P := P) (d := 9999) (a := a) (b := b) hT w
    simp only [binOp, equal_is, Sem.run_bind, this, Result.andThen_ok, pure]; rfl) (.inr ⟨by simp, by simp⟩)
theorem eqTold : EqR Tryz.prog 10000 67 (vagg (toldP told0)) (vagg (toldP told0)) true := fun w => by kernel_rfl
theorem y_neqTold {E : Env} {x y : Operand} {S : World → Prop} {T : TypeId} (hx : val E x = some (vagg (toldP told0))) (hy : val E y = some (vagg (toldP told0))) : Yl Tryz.prog S E (.binOp .neq 67 x y T) (.bool false) := y_neqA hx hy (by kernel_rfl) eqTold
theorem told_ok {s : TS} {h : Hd} (he : s.err h = 0) : toldT s h = ⟨hashH h, heightT (s.add h).L (hashH h), decide (bestH (s.add h) = hashH h), turnedT s h⟩ := if_pos he
theorem told_bad {s : TS} {h : Hd} (he : ¬ s.err h = 0) : toldT s h = told0 := if_neg he
theorem deep_ok {s : TS} {h : Hd} {d : Int} (he : s.err h = 0) : deepT s d h = if d < turnedT s h then turnedT s h else d := if_pos he
theorem deep_bad {s : TS} {h : Hd} {d : Int} (he : ¬ s.err h = 0) : deepT s d h = d := if_neg he
/-! ### a place in the chain -/
theorem line_inj {s : TS} (c : ChOk s.L s.ch) (hI : Inj s.L) {i j : Nat} (hi : i < s.ch.length) (hj : j < s.ch.length) (h : (lineH s).getD i h0 = (lineH s).getD j h0) : i = j := by
  rw [lineH_get s i hi, lineH_get s j hj] at h
  have := inj_eq hI (c.lt i hi) (c.lt j hj) h
  rw [← c.ht i hi, ← c.ht j hj, this]
/-- what is known of a block's depth, behind n of the chain's blocks -/
def DepUp (s : TS) (x : H32) (n : Nat) (d : Int) : Prop := (∀ i, i < n → (lineH s).getD i h0 = x → d = (s.ch.length : Int) - i) ∧ ((∀ i, i < n → ¬ (lineH s).getD i h0 = x) → d = 0)
theorem depUp_zero (s : TS) (x : H32) : DepUp s x 0 0 := ⟨fun i hi => by omega, fun _ => rfl⟩
theorem depUp_hit {s : TS} (c : ChOk s.L s.ch) (hI : Inj s.L) {x : H32} {n : Nat} {d : Int} (hn : n < s.ch.length) (_h : DepUp s x n d) (he : x = (lineH s).getD n h0) : DepUp s x (n + 1) ((s.ch.length : Int) - n) :=
  ⟨fun i hi h1 => by have := line_inj c hI (by omega) hn (h1.trans he); rw [this], fun h1 => absurd he.symm (h1 n (by omega))⟩
theorem depUp_miss {s : TS} {x : H32} {n : Nat} {d : Int} (h : DepUp s x n d) (he : ¬ x = (lineH s).getD n h0) : DepUp s x (n + 1) d :=
  ⟨fun i hi h1 => by
    by_cases hin : i = n
    · subst hin; exact absurd h1.symm he
    · exact h.1 i (by omega) h1, fun h1 => h.2 fun i hi => h1 i (by omega)⟩
theorem depUp_all {s : TS} (ok : LOk s.L) (c : ChOk s.L s.ch) (hI : Inj s.L) {x : H32} {n : Nat} {d : Int} (hn : n = s.ch.length) (h : DepUp s x n d) : depthT s x = d := by
  subst hn
  by_cases hm : x ∈ lineH s
  · obtain ⟨i, h1, h2⟩ := lineH_mem.1 hm
    rw [h.1 i (by omega) ((lineH_get s i h1).trans h2), ← h2, depth_ch c hI h1]
  · rw [depth_out ok hm, h.2 fun i hi h1 => ?_]
    have hl := lineH_len s
    by_cases hil : i < s.ch.length
    · exact hm (lineH_mem.2 ⟨i, hil, (lineH_get s i hil).symm.trans h1⟩)
    · exact absurd hi (by omega)
theorem conf_a {s s' : TS} (hs : s' = s) {h : H32} (h1 : (findT s'.L h).isSome = false) : confT s h = 12 := by subst hs; rw [confT, if_pos h1]
theorem conf_b {s s' : TS} (hs : s' = s) {h : H32} {d k : Int} (h1 : ¬ (findT s'.L h).isSome = false) (hd : depthT s h = d) (hr : s.r.confirm = k) (h2 : d < k) : confT s h = 13 := by subst hs; rw [confT, if_neg h1, if_pos (by rw [hd, hr]; exact h2)]
theorem conf_c {s s' : TS} (hs : s' = s) {h : H32} {d k : Int} (h1 : ¬ (findT s'.L h).isSome = false) (hd : depthT s h = d) (hr : s.r.confirm = k) (h2 : ¬ d < k) : confT s h = 0 := by subst hs; rw [confT, if_neg h1, if_neg (by rw [hd, hr]; exact h2)]

theorem RelaySubmits_all (e : Int) (sp : BitVec 32) (c : Int) (A : Option Addr) (n cap : Nat) (Rd : List Seg) (hsl : StepsIn A n Rd) (w : World) (hw : Pts Rd w) :
    Calls Tryz.prog 7 [vI e, bv .u32 sp, vI c, .slice A n cap].toArray w (Ret fun u w' => u = .bool true ∧ Ext w w') := by
  refine beginR Tryz.func7 rfl Tryz.ntmps7 rfl hw ?_
  refine c_seq ?_
  refine c_region ?_
  refine seqq (o_y (y_assign rfl) rfl ?_)
  refine c_nil ?_
  refine c_seq ?_
  refine c_seq ?_
  refine c_region ?_
  refine seqq (o_pure Tryz.call20 rfl (law_lives) rfl ?_)
  refine seqq (o_y (y_not (b := true) rfl) rfl ?_)
  refine seqq (o_y (y_move rfl) rfl ?_)
  refine seqq (guard_true rfl rfl (o_y (y_move rfl) rfl ?_))
  refine seqq (guard_true rfl rfl (o_y (y_len (tys := #[]) Tryz.runUnderlying23 rfl) rfl ?_))
  refine seqq (guard_true rfl rfl (o_y (y_gtrZ rfl rfl) rfl ?_))
  refine seqq (o_y (y_pick_f rfl rfl) rfl ?_)
  refine c_nil ?_
  refine c_if rfl (fun h43 => ?_) (fun h43 => ?_)
  ·
    refine c_seq ?_
    refine c_region ?_
    refine seqq (o_pure Tryz.call20 rfl (law_lives) rfl ?_)
    refine seqq (o_y (y_assign rfl) rfl ?_)
    refine c_nil ?_
    refine c_ret ?_
    refine c_done1 Tryz.results7 (.tmp rfl) (fun w hS => ?_)
    exact ⟨rfl, hS.none⟩
  ·
    refine c_skip ?_
    refine c_seq ?_
    refine c_region ?_
    refine seqq (o_y (y_move rfl) rfl ?_)
    refine seqq (o_y (y_move rfl) rfl ?_)
    refine seqq (o_y (y_move rfl) rfl ?_)
    refine seqq (o_pure Tryz.call9 rfl (law_Rules e sp c) rfl ?_)
    refine seqq (o_alloc (ps := [P1 (vI 0), P1 (bv .u32 0#32), P1 (bv .u32 0#32), P1 (vI 0), P1 (bv .u32 0#32), zleaf .u8 8 32, zleaf .u8 8 32, P1 (bv .u32 0#32), P1 (bv .u32 0#32), P1 (bv .u32 0#32)]) Tryz.zeroValue30 (by kernel_rfl) rfl (fun b9 => ?_))
    refine seqq (stN Tryz.sizeOf30 rfl rfl (by rfl) rfl (by rfl) ?_)
    refine c_nil ?_
    refine c_seq ?_
    refine c_region ?_
    refine seqq (o_y (lN Tryz.isAgg30 Tryz.sizeOf30 rfl (by rfl)) rfl ?_)
    refine seqq (o_new5 (X := Nat × Tr) (v := fun x => .tuple #[.pointer (some ⟨x.1, 0, none⟩), vI 0]) (p := fun x => x.2.ok ∧ x.2.s = newS (rulesR e sp c)) (A := fun x => [(x.1, obj 124 (reP (x.2.at x.2.bt).r x.2.bt 0))]) (B := fun x => [(x.2.bt, obj 91 (trP (x.2.at x.2.bt)))]) (C := fun x => [((x.2.at x.2.bt).bm, mObT (x.2.at x.2.bt).bs (x.2.at x.2.bt).L)]) (A' := fun x => [((x.2.at x.2.bt).bc, chOb (x.2.at x.2.bt).bs (x.2.at x.2.bt).ch (x.2.at x.2.bt).sp)]) (B' := fun x => ndSeg (x.2.at x.2.bt).bs (x.2.at x.2.bt).L) Tryz.call19 rfl rfl (fun w _ => relay_New (rulesR e sp c) (rules_ok e sp c) w) (fun x hx => ?_))
    obtain ⟨br, τ⟩ := x
    obtain ⟨hτ, hsτ⟩ := hx
    have hτ0 : τ.r = (rulesR e sp c) := congrArg TS.r hsτ
    have hIτ : Inj τ.L := by rw [show τ.L = (newS (rulesR e sp c)).L from congrArg TS.L hsτ]; exact inj_new _
    refine seqq (o_y (y_move rfl) rfl ?_)
    refine seqq (o_y (y_extract rfl rfl) rfl ?_)
    refine seqq (o_y (y_extract rfl rfl) rfl ?_)
    refine seqq (o_y (y_assign rfl) rfl ?_)
    refine seqq (o_y (y_assign rfl) rfl ?_)
    refine c_nil ?_
    refine c_seq ?_
    refine c_region ?_
    refine seqq (o_y (lN Tryz.isAgg30 Tryz.sizeOf30 rfl (by rfl)) rfl ?_)
    refine seqq (o_new4 (X := Tr) (v := fun x => .tuple #[.pointer (some ⟨x.bt, 0, none⟩), vI 0]) (p := fun x => x.ok ∧ x.s = newS (rulesR e sp c)) (A := fun x => [(x.bt, obj 91 (trP (x.at x.bt)))]) (B := fun x => [((x.at x.bt).bm, mObT (x.at x.bt).bs (x.at x.bt).L)]) (C := fun x => [((x.at x.bt).bc, chOb (x.at x.bt).bs (x.at x.bt).ch (x.at x.bt).sp)]) (A' := fun x => ndSeg (x.at x.bt).bs (x.at x.bt).L) Tryz.call10 rfl rfl (fun w _ => tree_New2 (rulesR e sp c) (rules_ok e sp c) w) (fun θ hθx => ?_))
    obtain ⟨hθ, hsθ⟩ := hθx
    refine seqq (o_y (y_move rfl) rfl ?_)
    refine seqq (o_y (y_extract rfl rfl) rfl ?_)
    refine seqq (o_y (y_extract rfl rfl) rfl ?_)
    refine seqq (o_y (y_assign rfl) rfl ?_)
    refine seqq (o_y (y_assign rfl) rfl ?_)
    refine c_nil ?_
    refine c_seq ?_
    refine c_seq ?_
    refine c_region ?_
    refine seqq (o_y (y_move rfl) rfl ?_)
    refine seqq (o_y (y_neqZ rfl rfl) rfl ?_)
    refine j_re 60 rfl (V.decNF rfl) ?_
    refine seqq (o_y (y_move rfl) rfl ?_)
    refine seqq (guard_true rfl rfl (o_y (y_move rfl) rfl ?_))
    refine seqq (guard_true rfl rfl (o_y (y_neqZ rfl rfl) rfl ?_))
    refine j_re 63 rfl (V.decNF rfl) ?_
    refine seqq (o_y (y_pick_f rfl rfl) rfl ?_)
    refine c_nil ?_
    refine c_condF rfl ?_
    refine c_skip ?_
    refine c_seq ?_
    refine c_region ?_
    refine seqq (o_y (y_fieldAddr Tryz.runUnderlying30 rfl Tryz.sizeOf28 rfl rfl) rfl ?_)
    refine seqq (o_y (lN Tryz.isAgg28 Tryz.sizeOf28 rfl (by rfl)) rfl ?_)
    refine seqq (o_buildSlice (zs := [P1 (bv .u32 0#32), zleaf .u8 8 32, zleaf .u8 8 32, P1 (bv .u32 0#32), P1 (bv .u32 0#32), P1 (bv .u32 0#32)]) Tryz.runUnderlying44 Tryz.sizeOf28 Tryz.zeroValue28 (by kernel_rfl) rfl rfl (.agg rfl .nil) (by rfl) rfl (fun b67 => ?_))
    refine seqq (o_y (y_assign rfl) rfl ?_)
    refine j_obj b67 (ps' := hdP (rulesR e sp c).first) rfl (by rfl) ?_
    refine j_seg (T := [(b67, obj 28 (hdP (rulesR e sp c).first))]) (T' := (VG.blk b67 1 []).seg 28 (HdC [(rulesR e sp c).first])) (by simp [VG.seg, rowC, obj]) ?_
    refine c_nil ?_
    refine c_seq ?_
    refine c_region ?_
    refine seqq (o_y (y_assign rfl) rfl ?_)
    refine c_nil ?_
    refine c_seq ?_
    refine c_seq ?_
    refine c_region ?_
    refine seqq (o_y (y_move rfl) rfl ?_)
    refine seqq (o_y (y_len (tys := #[]) Tryz.runUnderlying23 rfl) rfl ?_)
    refine seqq (o_y (y_move rfl) rfl ?_)
    refine c_nil ?_
    refine c_block ?_
    refine c_while (X := Tr × Int × Tr × VG × List Hd × Nat) [9, 10, 12, 68, 69] [b9] rfl (fun Ek y => (14, y.2.2.2.1.val y.2.2.2.2.1.length) :: (15, vI y.2.1) :: (70, vI (y.2.2.2.2.2 : Int)) :: Ek) (fun Mk y => [(br, obj 124 (reP (y.1.at τ.bt).r τ.bt y.2.1))] :: [(τ.bt, obj 91 (trP (y.1.at τ.bt)))] :: [((y.1.at τ.bt).bm, mObT (y.1.at τ.bt).bs (y.1.at τ.bt).L)] :: [((y.1.at τ.bt).bc, chOb (y.1.at τ.bt).bs (y.1.at τ.bt).ch (y.1.at τ.bt).sp)] :: ndSeg (y.1.at τ.bt).bs (y.1.at τ.bt).L :: [(θ.bt, obj 91 (trP (y.2.2.1.at θ.bt)))] :: [((y.2.2.1.at θ.bt).bm, mObT (y.2.2.1.at θ.bt).bs (y.2.2.1.at θ.bt).L)] :: [((y.2.2.1.at θ.bt).bc, chOb (y.2.2.1.at θ.bt).bs (y.2.2.1.at θ.bt).ch (y.2.2.1.at θ.bt).sp)] :: ndSeg (y.2.2.1.at θ.bt).bs (y.2.2.1.at θ.bt).L :: y.2.2.2.1.seg 28 (HdC y.2.2.2.2.1) :: Mk) (fun y => ((y.1.at τ.bt).ok ∧ Inj (y.1.at τ.bt).L ∧ y.2.2.2.1.ok 68 y.2.2.2.2.1.length (HdC y.2.2.2.2.1) ∧ y.2.2.2.2.1.length = y.2.2.2.2.2 + 1 ∧ y.2.2.2.2.2 ≤ n) ∧ (y.2.2.1.at θ.bt).ok ∧ (y.2.2.1.at θ.bt).s = (y.1.at τ.bt).s ∧ (y.1.at τ.bt).r = (rulesR e sp c)) (fun y => n - y.2.2.2.2.2) (τ, 0, θ, VG.blk b67 1 [], [(rulesR e sp c).first], 0) ⟨⟨hτ, hIτ, vg_back (by rw [rowC_len hdP_tot]) (Nat.le_refl _) (by rw [List.append_nil, rowC_len hdP_tot]; rfl), rfl, Nat.zero_le _⟩, hθ, hsθ.trans hsτ.symm, hτ0⟩ ⟨rfl, rfl, rfl, rfl, rfl, rfl, rfl, rfl, trivial⟩ ?_
    intro y hy
    obtain ⟨⟨hy1, hy2, hy3, hy4, hy5⟩, hw1, hws, hyr⟩ := hy
    have hIW : Inj (y.2.2.1.at θ.bt).s.L := by rw [hws]; exact hy2
    refine c_seq ?_
    refine c_region ?_
    refine seqq (o_y (y_lssZ rfl rfl) rfl ?_)
    refine c_nil ?_
    refine c_seq ?_
    refine c_if rfl (fun h71 => ?_) (fun h71 => ?_)
    ·
      obtain ⟨st, b, off, lc, T, fr, hA, hmem, hst⟩ := hsl y.2.2.2.2.2 (by omega)
      subst hA
      have Ist : InS b (.cells lc.toArray T fr) Rd := ⟨hmem⟩
      have hpk := pick_lt st.ahead y.2.2.2.2.1.length (by omega) (by omega)
      have hlW : (lineH (y.2.2.1.at θ.bt).s).length = (y.2.2.1.at θ.bt).ch.length := lineH_len (y.2.2.1.at θ.bt).s
      have hcW := ch_le hw1.l hw1.c
      have hbW := hw1.l.big
      refine j_vgN (T := 28) (cs := HdC y.2.2.2.2.1) 14 y.2.2.2.1 rfl hy3 (by omega) (fun bT capT spT hcT hsT => ?_)
      refine c_skip ?_
      refine c_seq ?_
      refine c_block ?_
      refine c_seq ?_
      refine c_region ?_
      refine seqq (o_y (y_indexAddrS Tryz.runUnderlying23 Tryz.sizeOf46 rfl rfl (by omega)) rfl ?_)
      refine seqq (o_y (l_step (off := off) y.2.2.2.2.2 rfl (by omega) hst) rfl ?_)
      refine seqq (o_alloc (ps := [P1 (vI 0), P1 (vI 0), P1 (.int .i32 0), P1 (bv .u8 0#8)]) Tryz.zeroValue46 (by kernel_rfl) rfl (fun b17 => ?_))
      refine seqq (stN Tryz.sizeOf46 rfl rfl (by rfl) rfl (by rfl) ?_)
      refine c_nil ?_
      refine c_seq ?_
      refine d_reg 15 mixed rfl ?_
      refine d_y (i := 0) (k' := 1) rfl (by kernel_rfl) (y_move rfl) rfl ?_
      refine d_y (i := 1) (k' := 3) rfl (by kernel_rfl) (y_move rfl) rfl ?_
      refine d_y (i := 2) (k' := 7) rfl (by kernel_rfl) (y_fieldAddr Tryz.runUnderlying46 rfl Tryz.sizeOf3 rfl rfl) rfl ?_
      refine d_s (i := 3) (k' := 15) rfl (by kernel_rfl) (by kernel_rfl) (l1 Tryz.isAgg3 rfl (by rfl)) hss rfl ?_
      refine d_y (i := 4) (k' := 31) rfl (by kernel_rfl) (y_convZB UK.u64 Tryz.runUnderlying3 Tryz.runUnderlying48 rfl) rfl ?_
      refine d_y (i := 5) (k' := 63) rfl (by kernel_rfl) (y_move rfl) rfl ?_
      refine d_y (i := 6) (k' := 127) rfl (by kernel_rfl) (y_len (tys := #[]) Tryz.runUnderlying44 rfl) rfl ?_
      refine d_y (i := 7) (k' := 255) rfl (by kernel_rfl) (y_convZB UK.u64 Tryz.runUnderlying3 Tryz.runUnderlying48 rfl) rfl ?_
      refine d_y (i := 8) (k' := 511) rfl (by kernel_rfl) (y_remB rfl rfl hpk.2) rfl ?_
      refine d_y (i := 9) (k' := 1023) rfl (by kernel_rfl) (y_convBI Tryz.runUnderlying48 Tryz.runUnderlying3 rfl (by have := hpk.1; omega)) rfl ?_
      refine d_y (i := 10) (k' := 2047) rfl (by kernel_rfl) (y_indexAddrS Tryz.runUnderlying44 Tryz.sizeOf28 rfl rfl (by omega)) rfl ?_
      refine d_s (i := 11) (k' := 4095) rfl (by kernel_rfl) (by kernel_rfl) (l_row Tryz.isAgg28 Tryz.sizeOf28 hdP_tot hd0 ((BitVec.ofInt 64 st.ahead % BitVec.ofInt 64 (y.2.2.2.2.1.length : Int)).toNat) rfl (by omega) hpk.1) hss rfl ?_
      refine d_s (i := 12) (k' := 8191) rfl (by kernel_rfl) (by kernel_rfl) (lN Tryz.isAgg46 Tryz.sizeOf46 rfl (by rfl)) hss rfl ?_
      refine d_cS (i := 13) (k' := 16383) rfl (by kernel_rfl) (by kernel_rfl) Tryz.call12 rfl (PureS.sub (law_Made (y.2.2.1.at θ.bt) hw1 (pickH y.2.2.2.2.1 st) st)) hss rfl ?_
      refine d_e (i := 14) (k' := 32767) rfl (by kernel_rfl) (o_alloc (ps := (hdP hd0)) Tryz.zeroValue28 (by kernel_rfl) rfl (fun b18 => d_keep hss ?_))
      refine d_e (i := 15) (k' := 65535) rfl (by kernel_rfl) (stN Tryz.sizeOf28 rfl rfl (by rfl) rfl (by rfl) ( d_past rfl ?_))
      refine d_end (by kernel_rfl) ?_
      refine c_seq ?_
      refine c_region ?_
      refine seqq (o_y (y_move rfl) rfl ?_)
      refine seqq (o_y (lN Tryz.isAgg28 Tryz.sizeOf28 rfl (by rfl)) rfl ?_)
      refine seqq (o_buildSlice (zs := [P1 (bv .u32 0#32), zleaf .u8 8 32, zleaf .u8 8 32, P1 (bv .u32 0#32), P1 (bv .u32 0#32), P1 (bv .u32 0#32)]) Tryz.runUnderlying44 Tryz.sizeOf28 Tryz.zeroValue28 (by kernel_rfl) rfl rfl (.agg rfl .nil) (by rfl) rfl (fun b90 => ?_))
      refine j_seg (T := [(bT, .cells (HdC y.2.2.2.2.1 ++ spT).toArray 28 (0, 0))]) (T' := (VG.blk bT capT spT).seg 28 (HdC y.2.2.2.2.1)) rfl ?_
      refine seqq (o_appHd (a := (madeH (y.2.2.1.at θ.bt).s (pickH y.2.2.2.2.1 st) st)) (VG.blk bT capT spT) rfl rfl rfl rfl (vg_back (by rw [rowC_len hdP_tot]) hcT hsT) (by rfl) (by omega) rfl (fun g2 hg2 => ?_))
      refine seqq (o_y (y_assign rfl) rfl ?_)
      refine c_nil ?_
      refine c_seq ?_
      refine c_region ?_
      refine seqq (o_y (y_move rfl) rfl ?_)
      refine seqq (o_new1 (X := VG) (v := fun g => g.val (lineH (y.2.2.1.at θ.bt).s).length) (A := fun g => g.seg 26 (HsC (lineH (y.2.2.1.at θ.bt).s))) (p := fun g => g.ok 32 (lineH (y.2.2.1.at θ.bt).s).length (HsC (lineH (y.2.2.1.at θ.bt).s))) Tryz.call25 rfl rfl (fun w hw => law_line (y.2.2.1.at θ.bt) hw1 w (fun p hp => hw p (sub_right (N := treeM (y.2.2.1.at θ.bt)) p hp))) (fun gW hgW => ?_))
      refine seqq (o_y (y_assign rfl) rfl ?_)
      refine c_nil ?_
      refine c_seq ?_
      refine c_region ?_
      refine seqq (o_y (lN Tryz.isAgg28 Tryz.sizeOf28 rfl (by rfl)) rfl ?_)
      refine seqq (o_newsl (T := 5) (cs := By (hdB (madeH (y.2.2.1.at θ.bt).s (pickH y.2.2.2.2.1 st) st))) Tryz.call24 rfl rfl (fun w hw => hdr_Bytes (madeH (y.2.2.1.at θ.bt).s (pickH y.2.2.2.2.1 st) st) w) (fun gB hgB => ?_))
      refine seqq (o_y (y_assign rfl) rfl ?_)
      refine c_nil ?_
      refine c_seq ?_
      refine c_region ?_
      refine seqq (o_y (y_move rfl) rfl ?_)
      refine seqq (o_y (y_move rfl) rfl ?_)
      refine seqq (o_own5 (X := Tr) (v := fun _ => .tuple #[vagg (toldP (toldT (y.1.at τ.bt).s (madeH (y.2.2.1.at θ.bt).s (pickH y.2.2.2.2.1 st) st))), vI ((y.1.at τ.bt).s.err (madeH (y.2.2.1.at θ.bt).s (pickH y.2.2.2.2.1 st) st))]) (p := fun z => (z.at τ.bt).ok ∧ (z.at τ.bt).s = (y.1.at τ.bt).s.add (madeH (y.2.2.1.at θ.bt).s (pickH y.2.2.2.2.1 st) st)) (relM br y.2.1 (y.1.at τ.bt)) (A := fun z => [(br, obj 124 (reP (z.at τ.bt).r τ.bt (deepT (y.1.at τ.bt).s y.2.1 (madeH (y.2.2.1.at θ.bt).s (pickH y.2.2.2.2.1 st) st))))]) (B := fun z => [(τ.bt, obj 91 (trP (z.at τ.bt)))]) (C := fun z => [((z.at τ.bt).bm, mObT (z.at τ.bt).bs (z.at τ.bt).L)]) (A' := fun z => [((z.at τ.bt).bc, chOb (z.at τ.bt).bs (z.at τ.bt).ch (z.at τ.bt).sp)]) (B' := fun z => ndSeg (z.at τ.bt).bs (z.at τ.bt).L) Tryz.call23 rfl rfl (fun w hw => relay_Submit br y.2.1 (y.1.at τ.bt) hy1 (madeH (y.2.2.1.at θ.bt).s (pickH y.2.2.2.2.1 st) st) (hdB (madeH (y.2.2.1.at θ.bt).s (pickH y.2.2.2.2.1 st) st)) (by rw [hdB_len]; decide) (parse_hdB (madeH (y.2.2.1.at θ.bt).s (pickH y.2.2.2.2.1 st) st)) (gB.val (By (hdB (madeH (y.2.2.1.at θ.bt).s (pickH y.2.2.2.2.1 st) st))).length) [gB.seg 5 (By (hdB (madeH (y.2.2.1.at θ.bt).s (pickH y.2.2.2.2.1 st) st)))] (fun w hw => by rw [by_len] at hgB ⊢; exact vg_reads (e := 5) hgB (fun p hp => hw p (by simpa using hp))) w (hw.lessR (sub_right (N := [gB.seg 5 (By (hdB (madeH (y.2.2.1.at θ.bt).s (pickH y.2.2.2.2.1 st) st)))])))) (fun z hz => ?_))
      obtain ⟨hz1, hz2⟩ := hz
      have hIz : Inj (z.at τ.bt).L := by rw [show (z.at τ.bt).L = ((y.1.at τ.bt).s.add (madeH (y.2.2.1.at θ.bt).s (pickH y.2.2.2.2.1 st) st)).L from congrArg TS.L hz2]; exact inj_add hy2 _
      have hrz : (z.at τ.bt).r = (rulesR e sp c) := by rw [show (z.at τ.bt).r = ((y.1.at τ.bt).s.add (madeH (y.2.2.1.at θ.bt).s (pickH y.2.2.2.2.1 st) st)).r from congrArg TS.r hz2, add_r]; exact hyr
      refine seqq (o_y (y_move rfl) rfl ?_)
      refine seqq (o_y (y_extract rfl rfl) rfl ?_)
      refine seqq (o_y (y_extract rfl rfl) rfl ?_)
      refine seqq (o_alloc (ps := [zleaf .u8 8 32, P1 (vI 0), P1 (.bool false), P1 (vI 0)]) Tryz.zeroValue67 (by kernel_rfl) rfl (fun b21 => ?_))
      refine seqq (stN Tryz.sizeOf67 rfl rfl (by rfl) rfl (by rfl) ?_)
      refine seqq (o_y (y_assign rfl) rfl ?_)
      refine c_nil ?_
      refine c_seq ?_
      refine c_seq ?_
      refine c_region ?_
      refine seqq (o_y (y_move rfl) rfl ?_)
      refine seqq (o_y (y_move rfl) rfl ?_)
      refine seqq (o_y (lN Tryz.isAgg28 Tryz.sizeOf28 rfl (by rfl)) rfl ?_)
      refine seqq (o_own4 (X := Tr) (v := fun _ => vI ((y.2.2.1.at θ.bt).s.err (madeH (y.2.2.1.at θ.bt).s (pickH y.2.2.2.2.1 st) st))) (p := fun x => (x.at θ.bt).ok ∧ (x.at θ.bt).s = (y.2.2.1.at θ.bt).s.add (madeH (y.2.2.1.at θ.bt).s (pickH y.2.2.2.2.1 st) st)) (treeM (y.2.2.1.at θ.bt)) (A := fun x => [(θ.bt, obj 91 (trP (x.at θ.bt)))]) (B := fun x => [((x.at θ.bt).bm, mObT (x.at θ.bt).bs (x.at θ.bt).L)]) (C := fun x => [((x.at θ.bt).bc, chOb (x.at θ.bt).bs (x.at θ.bt).ch (x.at θ.bt).sp)]) (A' := fun x => ndSeg (x.at θ.bt).bs (x.at θ.bt).L) Tryz.call15 rfl rfl (fun w hw => (tree_Add2 (y.2.2.1.at θ.bt) hw1 (madeH (y.2.2.1.at θ.bt).s (pickH y.2.2.2.2.1 st) st) w hw.noR).mono (fun e w2 h => by obtain ⟨v, h1, x, h2, h3, h4⟩ := h; exact ⟨v, h1, x, h2, h3, h4⟩)) (fun q hq => ?_))
      obtain ⟨hq1, hq2⟩ := hq
      have hqs : (q.at θ.bt).s = (z.at τ.bt).s := by rw [hq2, hz2, hws]
      have hqA : (q.at θ.bt).s = (y.1.at τ.bt).s.add (madeH (y.2.2.1.at θ.bt).s (pickH y.2.2.2.2.1 st) st) := hqs.trans hz2
      have hqL : ((y.1.at τ.bt).s.add (madeH (y.2.2.1.at θ.bt).s (pickH y.2.2.2.2.1 st) st)).L = (q.at θ.bt).L := (congrArg TS.L hqA).symm
      have hqB : bestH ((y.1.at τ.bt).s.add (madeH (y.2.2.1.at θ.bt).s (pickH y.2.2.2.2.1 st) st)) = bestH (q.at θ.bt).s := by rw [hqA]
      refine seqq (o_y (y_neqZ rfl rfl) rfl ?_)
      refine j_re 106 rfl (V.decNF (by rw [hws])) ?_
      refine c_nil ?_
      refine c_condF rfl ?_
      refine c_skip ?_
      refine c_seq ?_
      refine c_seq ?_
      refine c_region ?_
      refine seqq (o_y (y_move rfl) rfl ?_)
      refine seqq (o_y (y_neqZ rfl rfl) rfl ?_)
      refine c_nil ?_
      refine c_ifn rfl (fun h108 => ?_) (fun h108 => ?_)
      ·
        have he : ¬ (y.1.at τ.bt).s.err (madeH (y.2.2.1.at θ.bt).s (pickH y.2.2.2.2.1 st) st) = 0 := h108
        have hd : y.2.1 = (deepT (y.1.at τ.bt).s y.2.1 (madeH (y.2.2.1.at θ.bt).s (pickH y.2.2.2.2.1 st) st)) := (deep_bad he).symm
        refine c_seq ?_
        refine c_seq ?_
        refine c_region ?_
        refine seqq (o_y (lN Tryz.isAgg67 Tryz.sizeOf67 rfl (by rfl)) rfl ?_)
        refine j_re 109 rfl (show vagg (toldP (toldT (y.1.at τ.bt).s (madeH (y.2.2.1.at θ.bt).s (pickH y.2.2.2.2.1 st) st))) = vagg (toldP told0) from by rw [told_bad he]) ?_
        refine j_re 15 rfl (show vI y.2.1 = vI (deepT (y.1.at τ.bt).s y.2.1 (madeH (y.2.2.1.at θ.bt).s (pickH y.2.2.2.2.1 st) st)) from congrArg vI hd) ?_
        refine seqq (o_y (y_build (zs := [zleaf .u8 8 32, P1 (vI 0), P1 (.bool false), P1 (vI 0)]) (pl := [(0, 32), (32, 1), (33, 1), (34, 1)]) Tryz.runUnderlying67 Tryz.zeroValue67 (by kernel_rfl) (fun w => by kernel_rfl) .nil (by rfl)) rfl ?_)
        refine seqq (o_y (y_neqTold rfl rfl) rfl ?_)
        refine c_nil ?_
        refine c_condF rfl ?_
        refine c_skip ?_
        refine c_exit ?_
        refine c_region ?_
        refine seqq (o_y (y_addI rfl rfl (by omega)) rfl ?_)
        refine j_re 154 rfl (show _ = vI ((y.2.2.2.2.2 + 1 : Nat) : Int) from rfl) ?_
        refine seqq (o_y (y_move rfl) rfl ?_)
        refine c_nil ?_
        exact c_next (z, (deepT (y.1.at τ.bt).s y.2.1 (madeH (y.2.2.1.at θ.bt).s (pickH y.2.2.2.2.1 st) st)), q, g2, y.2.2.2.2.1 ++ [(madeH (y.2.2.1.at θ.bt).s (pickH y.2.2.2.2.1 st) st)], y.2.2.2.2.2 + 1) ⟨⟨hz1, hIz, hg2, by simp [hy4], by dsimp only; omega⟩, hq1, hqs, hrz⟩ (by dsimp only; omega) ⟨rfl, rfl, rfl, rfl, rfl, rfl, rfl, rfl, trivial⟩
      ·
        have he : (y.1.at τ.bt).s.err (madeH (y.2.2.1.at θ.bt).s (pickH y.2.2.2.2.1 st) st) = 0 := h108
        have hlQ : (lineH (q.at θ.bt).s).length = (q.at θ.bt).ch.length := lineH_len (q.at θ.bt).s
        have hcQ := ch_le hq1.l hq1.c
        have hbQ := hq1.l.big
        refine c_skip ?_
        refine c_seq ?_
        refine c_region ?_
        refine seqq (o_y (y_move rfl) rfl ?_)
        refine seqq (o_y (lN Tryz.isAgg28 Tryz.sizeOf28 rfl (by rfl)) rfl ?_)
        refine seqq (o_pure Tryz.call27 rfl (hdr_Hash _) rfl ?_)
        refine seqq (o_pureS Tryz.call31 rfl (PureS.sub (tree_Height (q.at θ.bt) hq1 (hashH (madeH (y.2.2.1.at θ.bt).s (pickH y.2.2.2.2.1 st) st)))) rfl ?_)
        refine seqq (o_y (y_move rfl) rfl ?_)
        refine seqq (o_y (y_extract rfl rfl) rfl ?_)
        refine seqq (o_y (y_extract rfl rfl) rfl ?_)
        refine seqq (o_y (y_assign rfl) rfl ?_)
        refine seqq (o_y (y_assign rfl) rfl ?_)
        refine c_nil ?_
        refine c_seq ?_
        refine c_region ?_
        refine seqq (o_y (y_move rfl) rfl ?_)
        refine seqq (o_new1 (X := VG) (v := fun g => g.val (lineH (q.at θ.bt).s).length) (A := fun g => g.seg 26 (HsC (lineH (q.at θ.bt).s))) (p := fun g => g.ok 32 (lineH (q.at θ.bt).s).length (HsC (lineH (q.at θ.bt).s))) Tryz.call25 rfl rfl (fun w hw => law_line (q.at θ.bt) hq1 w (fun p hp => hw p (sub_right (N := treeM (q.at θ.bt)) p hp))) (fun gN hgN => ?_))
        refine seqq (o_y (y_assign rfl) rfl ?_)
        refine c_nil ?_
        refine c_seq ?_
        refine c_region ?_
        refine seqq (o_y (y_move rfl) rfl ?_)
        refine seqq (o_y (y_move rfl) rfl ?_)
        refine seqq (o_pureS Tryz.call32 rfl (PureS.sub (law_turned gW (lineH (y.2.2.1.at θ.bt).s) gN (lineH (q.at θ.bt).s) hgW hgN (by omega) (by omega))) rfl ?_)
        refine j_re 123 rfl (show vI (turnedH (lineH (y.2.2.1.at θ.bt).s) (lineH (q.at θ.bt).s) : Int) = vI (turnedT (y.1.at τ.bt).s (madeH (y.2.2.1.at θ.bt).s (pickH y.2.2.2.2.1 st) st)) from by rw [hqA, show lineH (y.2.2.1.at θ.bt).s = lineH (y.1.at τ.bt).s from congrArg lineH hws]; exact congrArg vI (turned_eq hy1.l hy1.c hy2 he).symm) ?_
        refine seqq (o_y (y_assign rfl) rfl ?_)
        refine c_nil ?_
        refine c_seq ?_
        refine c_region ?_
        refine seqq (o_y (y_move rfl) rfl ?_)
        refine seqq (o_y (y_move rfl) rfl ?_)
        refine seqq (o_y (y_maxI rfl rfl) rfl ?_)
        refine j_re 126 rfl (show vI (if y.2.1 < turnedT (y.1.at τ.bt).s (madeH (y.2.2.1.at θ.bt).s (pickH y.2.2.2.2.1 st) st) then turnedT (y.1.at τ.bt).s (madeH (y.2.2.1.at θ.bt).s (pickH y.2.2.2.2.1 st) st) else y.2.1) = vI (deepT (y.1.at τ.bt).s y.2.1 (madeH (y.2.2.1.at θ.bt).s (pickH y.2.2.2.2.1 st) st)) from congrArg vI (deep_ok he).symm) ?_
        refine seqq (o_y (y_assign rfl) rfl ?_)
        refine c_nil ?_
        refine c_seq ?_
        refine d_reg 27 mixed rfl ?_
        refine d_y (i := 0) (k' := 1) rfl (by kernel_rfl) (y_fieldAddr Tryz.runUnderlying67 rfl Tryz.sizeOf26 rfl rfl) rfl ?_
        refine d_s (i := 1) (k' := 3) rfl (by kernel_rfl) (by kernel_rfl) (lN Tryz.isAgg26 Tryz.sizeOf26 rfl (by rfl)) hss rfl ?_
        refine d_s (i := 2) (k' := 7) rfl (by kernel_rfl) (by kernel_rfl) (lN Tryz.isAgg28 Tryz.sizeOf28 rfl (by rfl)) hss rfl ?_
        refine d_c (i := 3) (k' := 15) rfl (by kernel_rfl) Tryz.call27 rfl (hdr_Hash _) rfl ?_
        refine d_y (i := 4) (k' := 31) rfl (by kernel_rfl) (y_neqH rfl rfl) rfl ?_
        refine j_re 131 rfl (V.decNF (by rw [told_ok he])) ?_
        refine d_y (i := 5) (k' := 63) rfl (by kernel_rfl) (y_move rfl) rfl ?_
        refine d_gy (i := 6) (k' := 127) rfl (by kernel_rfl) rfl rfl (y_fieldAddr Tryz.runUnderlying67 rfl Tryz.sizeOf3 rfl rfl) rfl ?_
        refine d_gs (i := 7) (k' := 255) rfl (by kernel_rfl) rfl rfl (by kernel_rfl) (l1 Tryz.isAgg3 rfl (by rfl)) hss rfl ?_
        refine d_gy (i := 8) (k' := 511) rfl (by kernel_rfl) rfl rfl (y_move rfl) rfl ?_
        refine d_gy (i := 9) (k' := 1023) rfl (by kernel_rfl) rfl rfl (y_neqZ rfl rfl) rfl ?_
        refine j_re 136 rfl (V.decNF (by rw [told_ok he, hqL])) ?_
        refine d_y (i := 10) (k' := 2047) rfl (by kernel_rfl) (y_pick_f rfl rfl) rfl ?_
        refine d_y (i := 11) (k' := 4095) rfl (by kernel_rfl) (y_move rfl) rfl ?_
        refine d_gy (i := 12) (k' := 8191) rfl (by kernel_rfl) rfl rfl (y_fieldAddr Tryz.runUnderlying67 rfl Tryz.sizeOf4 rfl rfl) rfl ?_
        refine d_gs (i := 13) (k' := 16383) rfl (by kernel_rfl) rfl rfl (by kernel_rfl) (l1 Tryz.isAgg4 rfl (by rfl)) hss rfl ?_
        refine d_gy (i := 14) (k' := 32767) rfl (by kernel_rfl) rfl rfl (y_move rfl) rfl ?_
        refine d_gs (i := 16) (k' := 98303) rfl (by kernel_rfl) rfl rfl (by kernel_rfl) (lN Tryz.isAgg28 Tryz.sizeOf28 rfl (by rfl)) hss rfl ?_
        refine d_e (i := 15) (k' := 131071) rfl (by kernel_rfl) (guard_true rfl rfl (o_pureS Tryz.call14 rfl (PureS.sub (tree_Best (q.at θ.bt) hq1)) rfl ( d_keep hss ?_)))
        refine d_gc (i := 17) (k' := 262143) rfl (by kernel_rfl) rfl rfl Tryz.call27 rfl (hdr_Hash _) rfl ?_
        refine d_gy (i := 18) (k' := 524287) rfl (by kernel_rfl) rfl rfl (y_eqH rfl rfl) rfl ?_
        refine d_gy (i := 19) (k' := 1048575) rfl (by kernel_rfl) rfl rfl (y_neqBool Tryz.underlying4 rfl rfl) rfl ?_
        refine j_re 146 rfl (V.decNF (by rw [told_ok he, hqB]; exact rfl)) ?_
        refine d_y (i := 20) (k' := 2097151) rfl (by kernel_rfl) (y_pick_f rfl rfl) rfl ?_
        refine d_y (i := 21) (k' := 4194303) rfl (by kernel_rfl) (y_move rfl) rfl ?_
        refine d_gy (i := 22) (k' := 8388607) rfl (by kernel_rfl) rfl rfl (y_fieldAddr Tryz.runUnderlying67 rfl Tryz.sizeOf3 rfl rfl) rfl ?_
        refine d_gs (i := 23) (k' := 16777215) rfl (by kernel_rfl) rfl rfl (by kernel_rfl) (l1 Tryz.isAgg3 rfl (by rfl)) hss rfl ?_
        refine d_gy (i := 24) (k' := 33554431) rfl (by kernel_rfl) rfl rfl (y_move rfl) rfl ?_
        refine d_gy (i := 25) (k' := 67108863) rfl (by kernel_rfl) rfl rfl (y_neqZ rfl rfl) rfl ?_
        refine j_re 152 rfl (V.decNF (by rw [told_ok he])) ?_
        refine d_y (i := 26) (k' := 134217727) rfl (by kernel_rfl) (y_pick_f rfl rfl) rfl ?_
        refine d_end (by kernel_rfl) ?_
        refine c_condF rfl ?_
        refine c_skip ?_
        refine c_region ?_
        refine seqq (o_y (y_addI rfl rfl (by omega)) rfl ?_)
        refine j_re 154 rfl (show _ = vI ((y.2.2.2.2.2 + 1 : Nat) : Int) from rfl) ?_
        refine seqq (o_y (y_move rfl) rfl ?_)
        refine c_nil ?_
        exact c_next (z, (deepT (y.1.at τ.bt).s y.2.1 (madeH (y.2.2.1.at θ.bt).s (pickH y.2.2.2.2.1 st) st)), q, g2, y.2.2.2.2.1 ++ [(madeH (y.2.2.1.at θ.bt).s (pickH y.2.2.2.2.1 st) st)], y.2.2.2.2.2 + 1) ⟨⟨hz1, hIz, hg2, by simp [hy4], by dsimp only; omega⟩, hq1, hqs, hrz⟩ (by dsimp only; omega) ⟨rfl, rfl, rfl, rfl, rfl, rfl, rfl, rfl, trivial⟩
    ·
      have hwL : (y.2.2.1.at θ.bt).L = (y.1.at τ.bt).L := congrArg TS.L hws
      have hrc : (y.1.at τ.bt).s.r.confirm = (rulesR e sp c).confirm := congrArg Rl.confirm hyr
      have hll : (lineH (y.2.2.1.at θ.bt).s).length = (y.2.2.1.at θ.bt).ch.length := lineH_len (y.2.2.1.at θ.bt).s
      have hcne := hw1.c.ne
      have hcl := ch_le hw1.l hw1.c
      have hbig := hw1.l.big
      refine j_vgN (T := 28) (cs := HdC y.2.2.2.2.1) 14 y.2.2.2.1 rfl hy3 (by omega) (fun bT capT spT hcT hsT => ?_)
      refine c_exit ?_
      refine c_seq ?_
      refine c_region ?_
      refine seqq (o_y (y_move rfl) rfl ?_)
      refine seqq (o_new1 (X := VG) (v := fun g => g.val (lineH (y.2.2.1.at θ.bt).s).length) (A := fun g => g.seg 26 (HsC (lineH (y.2.2.1.at θ.bt).s))) (p := fun g => g.ok 32 (lineH (y.2.2.1.at θ.bt).s).length (HsC (lineH (y.2.2.1.at θ.bt).s))) Tryz.call25 rfl rfl (fun w hw => law_line (y.2.2.1.at θ.bt) hw1 w (fun p hp => hw p (sub_right (N := treeM (y.2.2.1.at θ.bt)) p hp))) (fun gF hgF => ?_))
      refine j_vgN (T := 26) (cs := HsC (lineH (y.2.2.1.at θ.bt).s)) 156 gF rfl hgF (by omega) (fun bL capL spL hcL hsL => ?_)
      refine seqq (o_y (y_assign rfl) rfl ?_)
      refine c_nil ?_
      refine c_seq ?_
      refine c_seq ?_
      refine c_region ?_
      refine seqq (o_y (y_move rfl) rfl ?_)
      refine seqq (o_pureS Tryz.call29 rfl (PureS.sub (relay_Deepest br y.2.1 (y.1.at τ.bt))) rfl ?_)
      refine seqq (o_y (y_move rfl) rfl ?_)
      refine seqq (o_y (y_neqZ rfl rfl) rfl ?_)
      refine j_re 160 rfl (V.decNF rfl) ?_
      refine seqq (o_y (y_move rfl) rfl ?_)
      refine seqq (guard_true rfl rfl (o_y (y_move rfl) rfl ?_))
      refine seqq (guard_true rfl rfl (o_pureS Tryz.call22 rfl (PureS.sub (relay_Tree br y.2.1 (y.1.at τ.bt))) rfl ?_))
      refine seqq (guard_true rfl rfl (o_pureS Tryz.call14 rfl (PureS.sub (tree_Best (y.1.at τ.bt) hy1)) rfl ?_))
      refine seqq (guard_true rfl rfl (o_y (y_move rfl) rfl ?_))
      refine seqq (guard_true rfl rfl (o_pureS Tryz.call14 rfl (PureS.sub (tree_Best (y.2.2.1.at θ.bt) hw1)) rfl ?_))
      refine seqq (guard_true rfl rfl (o_y (y_neqH rfl rfl) rfl ?_))
      refine j_re 167 rfl (V.decNF (show bestH (y.1.at τ.bt).s = bestH (y.2.2.1.at θ.bt).s by rw [hws])) ?_
      refine seqq (o_y (y_pick_f rfl rfl) rfl ?_)
      refine seqq (o_y (y_move rfl) rfl ?_)
      refine seqq (guard_true rfl rfl (o_y (y_move rfl) rfl ?_))
      refine seqq (guard_true rfl rfl (o_pureS Tryz.call22 rfl (PureS.sub (relay_Tree br y.2.1 (y.1.at τ.bt))) rfl ?_))
      refine seqq (guard_true rfl rfl (o_pureS Tryz.call33 rfl (PureS.sub (tree_Len (y.1.at τ.bt))) rfl ?_))
      refine seqq (guard_true rfl rfl (o_y (y_move rfl) rfl ?_))
      refine seqq (guard_true rfl rfl (o_pureS Tryz.call33 rfl (PureS.sub (tree_Len (y.2.2.1.at θ.bt))) rfl ?_))
      refine seqq (guard_true rfl rfl (o_y (y_neqZ rfl rfl) rfl ?_))
      refine j_re 175 rfl (V.decNF (by rw [hwL])) ?_
      refine seqq (o_y (y_pick_f rfl rfl) rfl ?_)
      refine c_nil ?_
      refine c_condF rfl ?_
      refine c_skip ?_
      refine c_seq ?_
      refine c_seq ?_
      refine c_region ?_
      refine seqq (o_y (y_move rfl) rfl ?_)
      refine seqq (o_y (y_len (tys := #[]) Tryz.runUnderlying44 rfl) rfl ?_)
      refine seqq (o_y (y_move rfl) rfl ?_)
      refine c_nil ?_
      refine c_block ?_
      refine c_while (X := Nat) [9, 10, 12, 27, 177, 178] [b9, bL, bT] rfl (fun Ek i => (179, vI (i : Int)) :: Ek) (fun Mk i => [(br, obj 124 (reP (y.1.at τ.bt).r τ.bt y.2.1))] :: [(τ.bt, obj 91 (trP (y.1.at τ.bt)))] :: [((y.1.at τ.bt).bm, mObT (y.1.at τ.bt).bs (y.1.at τ.bt).L)] :: [((y.1.at τ.bt).bc, chOb (y.1.at τ.bt).bs (y.1.at τ.bt).ch (y.1.at τ.bt).sp)] :: ndSeg (y.1.at τ.bt).bs (y.1.at τ.bt).L :: [(θ.bt, obj 91 (trP (y.2.2.1.at θ.bt)))] :: [((y.2.2.1.at θ.bt).bm, mObT (y.2.2.1.at θ.bt).bs (y.2.2.1.at θ.bt).L)] :: [((y.2.2.1.at θ.bt).bc, chOb (y.2.2.1.at θ.bt).bs (y.2.2.1.at θ.bt).ch (y.2.2.1.at θ.bt).sp)] :: ndSeg (y.2.2.1.at θ.bt).bs (y.2.2.1.at θ.bt).L :: Mk) (fun i => i ≤ y.2.2.2.2.1.length) (fun i => y.2.2.2.2.1.length - i) 0 (Nat.zero_le _) ⟨rfl, rfl, rfl, rfl, rfl, rfl, rfl, trivial⟩ ?_
      intro i hi
      refine c_seq ?_
      refine c_region ?_
      refine seqq (o_y (y_lssZ rfl rfl) rfl ?_)
      refine c_nil ?_
      refine c_seq ?_
      refine c_if rfl (fun h180 => ?_) (fun h180 => ?_)
      ·
        refine c_skip ?_
        refine c_seq ?_
        refine c_block ?_
        refine c_seq ?_
        refine c_region ?_
        refine seqq (o_y (y_indexAddrS Tryz.runUnderlying44 Tryz.sizeOf28 rfl rfl (by omega)) rfl ?_)
        refine seqq (o_y (l_row Tryz.isAgg28 Tryz.sizeOf28 hdP_tot hd0 i rfl (by omega) (by omega)) rfl ?_)
        refine seqq (o_alloc (ps := (hdP hd0)) Tryz.zeroValue28 (by kernel_rfl) rfl (fun b29 => ?_))
        refine seqq (stN Tryz.sizeOf28 rfl rfl (by rfl) rfl (by rfl) ?_)
        refine c_nil ?_
        refine c_seq ?_
        refine c_region ?_
        refine seqq (o_y (lN Tryz.isAgg28 Tryz.sizeOf28 rfl (by rfl)) rfl ?_)
        refine seqq (o_pure Tryz.call27 rfl (hdr_Hash _) rfl ?_)
        refine seqq (o_alloc (ps := [hP h0]) Tryz.zeroValue26 (by kernel_rfl) rfl (fun b30 => ?_))
        refine seqq (stN Tryz.sizeOf26 rfl rfl (by rfl) rfl (by rfl) ?_)
        refine c_nil ?_
        refine c_seq ?_
        refine c_region ?_
        refine seqq (o_y (y_move rfl) rfl ?_)
        refine seqq (o_y (lN Tryz.isAgg26 Tryz.sizeOf26 rfl (by rfl)) rfl ?_)
        refine seqq (o_pureS Tryz.call31 rfl (PureS.sub (tree_Height (y.2.2.1.at θ.bt) hw1 (hashH (y.2.2.2.2.1.getD i hd0)))) rfl ?_)
        refine seqq (o_y (y_move rfl) rfl ?_)
        refine seqq (o_y (y_extract rfl rfl) rfl ?_)
        refine seqq (o_y (y_extract rfl rfl) rfl ?_)
        refine seqq (o_y (y_assign rfl) rfl ?_)
        refine seqq (o_y (y_assign rfl) rfl ?_)
        refine c_nil ?_
        refine c_seq ?_
        refine c_region ?_
        refine seqq (o_y (y_assign rfl) rfl ?_)
        refine c_nil ?_
        refine c_seq ?_
        refine c_seq ?_
        refine c_region ?_
        refine seqq (o_y (y_move rfl) rfl ?_)
        refine seqq (o_y (y_len (tys := #[]) Tryz.runUnderlying71 rfl) rfl ?_)
        refine seqq (o_y (y_move rfl) rfl ?_)
        refine c_nil ?_
        refine c_block ?_
        refine c_while (X := Nat × Int) [9, 10, 12, 27, 30, 32, 177, 178, 179, 191, 192] [b9, bL, bT, b30] rfl (fun Ek v => (33, vI v.2) :: (193, vI (v.1 : Int)) :: Ek) (fun Mk v => [(br, obj 124 (reP (y.1.at τ.bt).r τ.bt y.2.1))] :: [(τ.bt, obj 91 (trP (y.1.at τ.bt)))] :: [((y.1.at τ.bt).bm, mObT (y.1.at τ.bt).bs (y.1.at τ.bt).L)] :: [((y.1.at τ.bt).bc, chOb (y.1.at τ.bt).bs (y.1.at τ.bt).ch (y.1.at τ.bt).sp)] :: ndSeg (y.1.at τ.bt).bs (y.1.at τ.bt).L :: [(θ.bt, obj 91 (trP (y.2.2.1.at θ.bt)))] :: [((y.2.2.1.at θ.bt).bm, mObT (y.2.2.1.at θ.bt).bs (y.2.2.1.at θ.bt).L)] :: [((y.2.2.1.at θ.bt).bc, chOb (y.2.2.1.at θ.bt).bs (y.2.2.1.at θ.bt).ch (y.2.2.1.at θ.bt).sp)] :: ndSeg (y.2.2.1.at θ.bt).bs (y.2.2.1.at θ.bt).L :: Mk) (fun v => v.1 ≤ (lineH (y.2.2.1.at θ.bt).s).length ∧ DepUp (y.2.2.1.at θ.bt).s (hashH (y.2.2.2.2.1.getD i hd0)) v.1 v.2) (fun v => (lineH (y.2.2.1.at θ.bt).s).length - v.1) (0, 0) ⟨Nat.zero_le _, depUp_zero _ _⟩ ⟨rfl, rfl, rfl, rfl, rfl, rfl, rfl, rfl, rfl, rfl, rfl, rfl, rfl, trivial⟩ ?_
        intro v hv
        obtain ⟨hv1, hv2⟩ := hv
        refine c_seq ?_
        refine c_region ?_
        refine seqq (o_y (y_lssZ rfl rfl) rfl ?_)
        refine c_nil ?_
        refine c_seq ?_
        refine c_if rfl (fun h194 => ?_) (fun h194 => ?_)
        ·
          refine c_skip ?_
          refine c_seq ?_
          refine c_block ?_
          refine c_seq ?_
          refine c_region ?_
          refine seqq (o_y (y_move rfl) rfl ?_)
          refine seqq (o_y (y_indexAddrS Tryz.runUnderlying71 Tryz.sizeOf26 rfl rfl (by omega)) rfl ?_)
          refine seqq (o_y (l_hs v.1 rfl (by omega) (by omega)) rfl ?_)
          refine seqq (o_alloc (ps := [hP h0]) Tryz.zeroValue26 (by kernel_rfl) rfl (fun b35 => ?_))
          refine seqq (o_y (y_assign rfl) rfl ?_)
          refine seqq (stN Tryz.sizeOf26 rfl rfl (by rfl) rfl (by rfl) ?_)
          refine c_nil ?_
          refine c_seq ?_
          refine c_region ?_
          refine seqq (o_y (lN Tryz.isAgg26 Tryz.sizeOf26 rfl (by rfl)) rfl ?_)
          refine seqq (o_y (lN Tryz.isAgg26 Tryz.sizeOf26 rfl (by rfl)) rfl ?_)
          refine seqq (o_y (y_eqH rfl rfl) rfl ?_)
          refine c_nil ?_
          refine c_if rfl (fun h200 => ?_) (fun h200 => ?_)
          ·
            refine c_region ?_
            refine seqq (o_y (y_move rfl) rfl ?_)
            refine seqq (o_y (y_len (tys := #[]) Tryz.runUnderlying71 rfl) rfl ?_)
            refine seqq (o_y (y_move rfl) rfl ?_)
            refine seqq (o_y (y_subI rfl rfl (by omega)) rfl ?_)
            refine j_re 204 rfl (show vI (((lineH (y.2.2.1.at θ.bt).s).length : Int) - v.1) = vI (((y.2.2.1.at θ.bt).s.ch.length : Int) - v.1) from by rw [lineH_len]) ?_
            refine seqq (o_y (y_assign rfl) rfl ?_)
            refine c_nil ?_
            refine c_region ?_
            refine seqq (o_y (y_addI rfl rfl (by omega)) rfl ?_)
            refine j_re 205 rfl (show _ = vI ((v.1 + 1 : Nat) : Int) from rfl) ?_
            refine seqq (o_y (y_move rfl) rfl ?_)
            refine c_nil ?_
            exact c_next (v.1 + 1, ((y.2.2.1.at θ.bt).s.ch.length : Int) - v.1) ⟨by dsimp only; omega, depUp_hit hw1.c hIW (show v.1 < (y.2.2.1.at θ.bt).ch.length by omega) hv2 h200⟩ (by dsimp only; omega) ⟨rfl, rfl, rfl, rfl, rfl, rfl, rfl, rfl, rfl, rfl, rfl, rfl, rfl, trivial⟩
          ·
            refine c_skip ?_
            refine c_region ?_
            refine seqq (o_y (y_addI rfl rfl (by omega)) rfl ?_)
            refine j_re 205 rfl (show _ = vI ((v.1 + 1 : Nat) : Int) from rfl) ?_
            refine seqq (o_y (y_move rfl) rfl ?_)
            refine c_nil ?_
            exact c_next (v.1 + 1, v.2) ⟨by dsimp only; omega, depUp_miss hv2 h200⟩ (by dsimp only; omega) ⟨rfl, rfl, rfl, rfl, rfl, rfl, rfl, rfl, rfl, rfl, rfl, rfl, rfl, trivial⟩
        ·
          have hdep : depthT (y.1.at τ.bt).s (hashH (y.2.2.2.2.1.getD i hd0)) = v.2 := by rw [← hws]; exact depUp_all hw1.l hw1.c hIW (show v.1 = (y.2.2.1.at θ.bt).ch.length by omega) hv2
          refine c_exit ?_
          refine c_seq ?_
          refine c_region ?_
          refine seqq (o_y (y_assign rfl) rfl ?_)
          refine c_nil ?_
          refine c_seq ?_
          refine c_block ?_
          refine c_seq ?_
          refine c_region ?_
          refine seqq (o_y (y_move rfl) rfl ?_)
          refine seqq (o_y (y_not rfl) rfl ?_)
          refine seqq (o_y (y_assign rfl) rfl ?_)
          refine c_nil ?_
          refine c_cond rfl (fun h206 => ?_) (fun h206 => ?_)
          ·
            refine c_region ?_
            refine seqq (o_y (y_assign rfl) rfl ?_)
            refine c_nil ?_
            refine c_seq ?_
            refine c_region ?_
            refine seqq (o_y (y_move rfl) rfl ?_)
            refine seqq (o_y (lN Tryz.isAgg26 Tryz.sizeOf26 rfl (by rfl)) rfl ?_)
            refine seqq (o_pureS Tryz.call26 rfl (PureS.sub (relay_Depth br y.2.1 (y.1.at τ.bt) hy1 (hashH (y.2.2.2.2.1.getD i hd0)))) rfl ?_)
            refine seqq (o_y (y_move rfl) rfl ?_)
            refine seqq (o_y (y_neqZ rfl rfl) rfl ?_)
            refine j_re 218 rfl (V.decNF hdep) ?_
            refine seqq (o_y (y_move rfl) rfl ?_)
            refine seqq (guard_true rfl rfl (o_y (y_move rfl) rfl ?_))
            refine seqq (guard_true rfl rfl (o_y (lN Tryz.isAgg26 Tryz.sizeOf26 rfl (by rfl)) rfl ?_))
            refine seqq (guard_true rfl rfl (o_pureS Tryz.call30 rfl (PureS.sub (relay_Confirmed br y.2.1 (y.1.at τ.bt) hy1 (hashH (y.2.2.2.2.1.getD i hd0)))) rfl ?_))
            refine seqq (guard_true rfl rfl (o_y (y_move rfl) rfl ?_))
            refine seqq (guard_true rfl rfl (o_y (y_neqZ rfl rfl) rfl ?_))
            refine j_re 224 rfl (V.decNF (conf_a hws (nb_t h206))) ?_
            refine seqq (o_y (y_pick_f rfl rfl) rfl ?_)
            refine c_nil ?_
            refine c_condF rfl ?_
            refine c_skip ?_
            refine c_region ?_
            refine seqq (o_y (y_addI rfl rfl (by omega)) rfl ?_)
            refine j_re 226 rfl (show _ = vI ((i + 1 : Nat) : Int) from rfl) ?_
            refine seqq (o_y (y_move rfl) rfl ?_)
            refine c_nil ?_
            exact c_next (i + 1) (by omega) (by omega) ⟨rfl, rfl, rfl, rfl, rfl, rfl, rfl, trivial⟩
          ·
            refine c_seq ?_
            refine c_region ?_
            refine seqq (o_y (y_move rfl) rfl ?_)
            refine seqq (o_y (y_fieldAddr Tryz.runUnderlying30 rfl Tryz.sizeOf3 rfl rfl) rfl ?_)
            refine seqq (o_y (l1 Tryz.isAgg3 rfl (by rfl)) rfl ?_)
            refine seqq (o_y (y_lssZ rfl rfl) rfl ?_)
            refine seqq (o_y (y_assign rfl) rfl ?_)
            refine c_nil ?_
            refine c_if rfl (fun h209 => ?_) (fun h209 => ?_)
            ·
              refine c_region ?_
              refine seqq (o_y (y_assign rfl) rfl ?_)
              refine c_nil ?_
              refine c_seq ?_
              refine c_region ?_
              refine seqq (o_y (y_move rfl) rfl ?_)
              refine seqq (o_y (lN Tryz.isAgg26 Tryz.sizeOf26 rfl (by rfl)) rfl ?_)
              refine seqq (o_pureS Tryz.call26 rfl (PureS.sub (relay_Depth br y.2.1 (y.1.at τ.bt) hy1 (hashH (y.2.2.2.2.1.getD i hd0)))) rfl ?_)
              refine seqq (o_y (y_move rfl) rfl ?_)
              refine seqq (o_y (y_neqZ rfl rfl) rfl ?_)
              refine j_re 218 rfl (V.decNF hdep) ?_
              refine seqq (o_y (y_move rfl) rfl ?_)
              refine seqq (guard_true rfl rfl (o_y (y_move rfl) rfl ?_))
              refine seqq (guard_true rfl rfl (o_y (lN Tryz.isAgg26 Tryz.sizeOf26 rfl (by rfl)) rfl ?_))
              refine seqq (guard_true rfl rfl (o_pureS Tryz.call30 rfl (PureS.sub (relay_Confirmed br y.2.1 (y.1.at τ.bt) hy1 (hashH (y.2.2.2.2.1.getD i hd0)))) rfl ?_))
              refine seqq (guard_true rfl rfl (o_y (y_move rfl) rfl ?_))
              refine seqq (guard_true rfl rfl (o_y (y_neqZ rfl rfl) rfl ?_))
              refine j_re 224 rfl (V.decNF (conf_b hws (nb_f h206) hdep hrc h209)) ?_
              refine seqq (o_y (y_pick_f rfl rfl) rfl ?_)
              refine c_nil ?_
              refine c_condF rfl ?_
              refine c_skip ?_
              refine c_region ?_
              refine seqq (o_y (y_addI rfl rfl (by omega)) rfl ?_)
              refine j_re 226 rfl (show _ = vI ((i + 1 : Nat) : Int) from rfl) ?_
              refine seqq (o_y (y_move rfl) rfl ?_)
              refine c_nil ?_
              exact c_next (i + 1) (by omega) (by omega) ⟨rfl, rfl, rfl, rfl, rfl, rfl, rfl, trivial⟩
            ·
              refine c_skip ?_
              refine c_seq ?_
              refine c_region ?_
              refine seqq (o_y (y_move rfl) rfl ?_)
              refine seqq (o_y (lN Tryz.isAgg26 Tryz.sizeOf26 rfl (by rfl)) rfl ?_)
              refine seqq (o_pureS Tryz.call26 rfl (PureS.sub (relay_Depth br y.2.1 (y.1.at τ.bt) hy1 (hashH (y.2.2.2.2.1.getD i hd0)))) rfl ?_)
              refine seqq (o_y (y_move rfl) rfl ?_)
              refine seqq (o_y (y_neqZ rfl rfl) rfl ?_)
              refine j_re 218 rfl (V.decNF hdep) ?_
              refine seqq (o_y (y_move rfl) rfl ?_)
              refine seqq (guard_true rfl rfl (o_y (y_move rfl) rfl ?_))
              refine seqq (guard_true rfl rfl (o_y (lN Tryz.isAgg26 Tryz.sizeOf26 rfl (by rfl)) rfl ?_))
              refine seqq (guard_true rfl rfl (o_pureS Tryz.call30 rfl (PureS.sub (relay_Confirmed br y.2.1 (y.1.at τ.bt) hy1 (hashH (y.2.2.2.2.1.getD i hd0)))) rfl ?_))
              refine seqq (guard_true rfl rfl (o_y (y_move rfl) rfl ?_))
              refine seqq (guard_true rfl rfl (o_y (y_neqZ rfl rfl) rfl ?_))
              refine j_re 224 rfl (V.decNF (conf_c hws (nb_f h206) hdep hrc h209)) ?_
              refine seqq (o_y (y_pick_f rfl rfl) rfl ?_)
              refine c_nil ?_
              refine c_condF rfl ?_
              refine c_skip ?_
              refine c_region ?_
              refine seqq (o_y (y_addI rfl rfl (by omega)) rfl ?_)
              refine j_re 226 rfl (show _ = vI ((i + 1 : Nat) : Int) from rfl) ?_
              refine seqq (o_y (y_move rfl) rfl ?_)
              refine c_nil ?_
              exact c_next (i + 1) (by omega) (by omega) ⟨rfl, rfl, rfl, rfl, rfl, rfl, rfl, trivial⟩
      ·
        refine c_exit ?_
        refine c_seq ?_
        refine c_region ?_
        refine seqq (o_y (y_assign rfl) rfl ?_)
        refine c_nil ?_
        refine c_ret ?_
        refine c_done1 Tryz.results7 (.tmp rfl) (fun w hS => ?_)
        exact ⟨rfl, hS.none⟩
