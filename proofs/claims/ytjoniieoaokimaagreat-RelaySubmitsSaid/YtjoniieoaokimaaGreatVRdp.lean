/- Walks and laws of this claim, part Rdp. -/
import Derived.Test.YtjoniieoaokimaaGreatVPl
set_option linter.unusedVariables false
set_option linter.unusedSimpArgs false
set_option linter.unusedSectionVars false
set_option autoImplicit true
set_option relaxedAutoImplicit true
set_option maxRecDepth 100000
set_option maxHeartbeats 1000000
namespace Go.Proofs
open V
/-! ### what the laws share -/
/-- headers, steps in a row -/
abbrev HdC (l : List Hd) : List Value := rowC hdP l
theorem hdP_tot (h : Hd) : total (hdP h) = 68 := rfl
/-- the step number k of a slice of steps: where it is to be read -/
def StepAt (A : Option Addr) (Rd : List Seg) (k : Nat) (x : Stp) : Prop := ∃ (b off : Nat) (l : List Value) (T : TypeId) (fr : Nat × Nat), A = some ⟨b, off, none⟩ ∧ (b, .cells l.toArray T fr) ∈ Rd.flatten ∧ ∀ (j : Nat) (v : Value), (flat (stP x))[j]? = some v → l[off + k * 4 + j]? = some v
/-- a slice of steps: 'n' of them can be read -/
def StepsIn (A : Option Addr) (n : Nat) (Rd : List Seg) : Prop := ∀ k, k < n → ∃ x : Stp, StepAt A Rd k x
theorem l_step {E : Env} {x : Operand} {N : List Seg} {b off o : Nat} {l : List Value} {T : TypeId} {fr : Nat × Nat} (k : Nat) {st : Stp} (hx : val E x = some (.pointer (some ⟨b, o, none⟩))) [hm : InS b (.cells l.toArray T fr) N] (ho : o = off + k * 4)
    (hc : ∀ (j : Nat) (v : Value), (flat (stP st))[j]? = some v → l[off + k * 4 + j]? = some v) : Yl Tryz.prog (Pts N) E (.load 46 x) (vSt st) :=
  y_loadCs Tryz.isAgg46 Tryz.sizeOf46 (off + k * 4) hx ho (by rfl) hc
/-- a header more -/
theorem o_appHd {Q : Exit → Act → World → Prop} {K : Act → World → Prop} {ops : Array Oper} {n : Nat} {D : List Deferred} {E : Env} {σ : Bs} {M F : List Seg} {x y : Operand} {ty : TypeId} {pos : String} {after : Array Edge} {t b off cap T0 k : Nat} {sv : Value} {l : List Hd} {a : Hd} {ps : List Part} (g : VG)
    (hx : val E x = some sv) (hl : l.length = k) (hsv : sv = g.val k) (hy : val E y = some (.slice (some ⟨b, off, none⟩) 1 cap)) (hok : g.ok 68 l.length (HdC l))
    [hm : InS b (obj T0 ps) (σ.R ++ M)] (hq : spanAt ps off 68 = some (hdP a)) [hF : TakeC (g.seg 28 (HdC l)) M F] (hbig : l.length ≤ 1000000) (ht : Nat.blt t n = true)
    (h : ∀ g' : VG, g'.ok 68 (l ++ [a]).length (HdC (l ++ [a])) → J n D ((t, g'.val (l ++ [a]).length) :: E) σ (g'.seg 28 (HdC (l ++ [a])) :: F) K) :
    J n D E σ M (Op1 Tryz.prog ops Q ⟨some t, .call ⟨.builtin .append, #[x, y], #[44, 44]⟩, ty, pos, after, none⟩ K) :=
  o_appR g Tryz.runUnderlying44 Tryz.sizeOf28 Tryz.zeroValue28 (by kernel_rfl) Tryz.typeInfo28 rfl hdP_tot hx hl hsv hy hok hq (by
    have : (2 * (l.length + 1) + 768) * 80 ≤ 281474976710656 := by omega
    exact this) (by decide) ht h
def pickH (l : List Hd) (x : Stp) : Hd := l.getD ((BitVec.ofInt 64 x.ahead % BitVec.ofInt 64 (l.length : Int)).toNat) hd0
theorem new_h (ls : List Hd) (a : Hd) : (ls ++ [a]).length = ls.length + 1 := by simp
theorem pick_lt (z : Int) (n : Nat) (h1 : 1 ≤ n) (h2 : n ≤ 1000000) : (BitVec.ofInt 64 z % BitVec.ofInt 64 (n : Int)).toNat < n ∧ (BitVec.ofInt 64 (n : Int)).toNat ≠ 0 := by
  have e : (BitVec.ofInt 64 (n : Int)).toNat = n := by simp [BitVec.toNat_ofNat]; omega
  rw [BitVec.toNat_umod, e]
  exact ⟨Nat.mod_lt _ (by omega), by omega⟩

theorem RelayDepths_all (e : Int) (sp : BitVec 32) (A : Option Addr) (n cap : Nat) (Rd : List Seg) (hsl : StepsIn A n Rd) (w : World) (hw : Pts Rd w) :
    Calls Tryz.prog 5 [vI e, bv .u32 sp, .slice A n cap].toArray w (Ret fun u w' => u = .bool true ∧ Ext w w') := by
  refine beginR Tryz.func5 rfl Tryz.ntmps5 rfl hw ?_
  refine c_seq ?_
  refine c_region ?_
  refine seqq (o_y (y_assign rfl) rfl ?_)
  refine c_nil ?_
  refine c_seq ?_
  refine c_seq ?_
  refine c_region ?_
  refine seqq (o_pure Tryz.call20 rfl (law_lives) rfl ?_)
  refine seqq (o_y (y_not (b := true) rfl) rfl ?_)
  refine seqq (o_y (y_move rfl) rfl ?_)
  refine seqq (guard_true rfl rfl (o_y (y_move rfl) rfl ?_))
  refine seqq (guard_true rfl rfl (o_y (y_len (tys := #[]) Tryz.runUnderlying23 rfl) rfl ?_))
  refine seqq (guard_true rfl rfl (o_y (y_gtrZ rfl rfl) rfl ?_))
  refine seqq (o_y (y_pick_f rfl rfl) rfl ?_)
  refine c_nil ?_
  refine c_if rfl (fun h26 => ?_) (fun h26 => ?_)
  ·
    refine c_seq ?_
    refine c_region ?_
    refine seqq (o_pure Tryz.call20 rfl (law_lives) rfl ?_)
    refine seqq (o_y (y_assign rfl) rfl ?_)
    refine c_nil ?_
    refine c_ret ?_
    refine c_done1 Tryz.results5 (.tmp rfl) (fun w hS => ?_)
    exact ⟨rfl, hS.none⟩
  ·
    have hn30 : n ≤ 30 := by omega
    refine c_skip ?_
    refine c_seq ?_
    refine c_region ?_
    refine seqq (o_y (y_move rfl) rfl ?_)
    refine seqq (o_y (y_move rfl) rfl ?_)
    refine seqq (o_pure Tryz.call9 rfl (law_Rules _ _ _) rfl ?_)
    refine seqq (o_alloc (ps := [P1 (vI 0), P1 (bv .u32 0#32), P1 (bv .u32 0#32), P1 (vI 0), P1 (bv .u32 0#32), zleaf .u8 8 32, zleaf .u8 8 32, P1 (bv .u32 0#32), P1 (bv .u32 0#32), P1 (bv .u32 0#32)]) Tryz.zeroValue30 (by kernel_rfl) rfl (fun b7 => ?_))
    refine seqq (stN Tryz.sizeOf30 rfl rfl (by rfl) rfl (by rfl) ?_)
    refine c_nil ?_
    refine c_seq ?_
    refine c_region ?_
    refine seqq (o_y (lN Tryz.isAgg30 Tryz.sizeOf30 rfl (by rfl)) rfl ?_)
    refine seqq (o_new5 (X := Nat × Tr) (v := fun x => .tuple #[.pointer (some ⟨x.1, 0, none⟩), vI 0]) (p := fun x => x.2.ok ∧ x.2.s = newS (rulesR e sp 1)) (A := fun x => [(x.1, obj 124 (reP (x.2.at x.2.bt).r x.2.bt 0))]) (B := fun x => [(x.2.bt, obj 91 (trP (x.2.at x.2.bt)))]) (C := fun x => [((x.2.at x.2.bt).bm, mObT (x.2.at x.2.bt).bs (x.2.at x.2.bt).L)]) (A' := fun x => [((x.2.at x.2.bt).bc, chOb (x.2.at x.2.bt).bs (x.2.at x.2.bt).ch (x.2.at x.2.bt).sp)]) (B' := fun x => ndSeg (x.2.at x.2.bt).bs (x.2.at x.2.bt).L) Tryz.call19 rfl rfl (fun w _ => relay_New (rulesR e sp 1) (rules_ok e sp 1) w) (fun x hx => ?_))
    obtain ⟨br, τ⟩ := x
    obtain ⟨hτ, hsτ⟩ := hx
    have hτ0 : τ.r = rulesR e sp 1 := congrArg TS.r hsτ
    have hIτ : Inj τ.L := by rw [show τ.L = (newS (rulesR e sp 1)).L from congrArg TS.L hsτ]; exact inj_new _
    refine seqq (o_y (y_move rfl) rfl ?_)
    refine seqq (o_y (y_extract rfl rfl) rfl ?_)
    refine seqq (o_y (y_extract rfl rfl) rfl ?_)
    refine seqq (o_y (y_assign rfl) rfl ?_)
    refine seqq (o_y (y_assign rfl) rfl ?_)
    refine c_nil ?_
    refine c_seq ?_
    refine c_region ?_
    refine seqq (o_y (y_fieldAddr Tryz.runUnderlying30 rfl Tryz.sizeOf28 rfl rfl) rfl ?_)
    refine seqq (o_y (lN Tryz.isAgg28 Tryz.sizeOf28 rfl (by rfl)) rfl ?_)
    refine seqq (o_buildSlice (zs := [P1 (bv .u32 0#32), zleaf .u8 8 32, zleaf .u8 8 32, P1 (bv .u32 0#32), P1 (bv .u32 0#32), P1 (bv .u32 0#32)]) Tryz.runUnderlying44 Tryz.sizeOf28 Tryz.zeroValue28 (by kernel_rfl) rfl rfl (.agg rfl .nil) (by rfl) rfl (fun b38 => ?_))
    refine seqq (o_y (y_assign rfl) rfl ?_)
    refine j_obj b38 (ps' := hdP (rulesR e sp 1).first) rfl (by rfl) ?_
    refine j_seg (T := [(b38, obj 28 (hdP (rulesR e sp 1).first))]) (T' := (VG.blk b38 1 []).seg 28 (HdC [(rulesR e sp 1).first])) (by simp [VG.seg, rowC, obj]) ?_
    refine c_nil ?_
    refine c_seq ?_
    refine c_seq ?_
    refine c_region ?_
    refine seqq (o_y (y_move rfl) rfl ?_)
    refine seqq (o_y (y_len (tys := #[]) Tryz.runUnderlying23 rfl) rfl ?_)
    refine seqq (o_y (y_move rfl) rfl ?_)
    refine c_nil ?_
    refine c_block ?_
    refine c_while (X := Tr × Int × VG × List Hd × Nat) [8, 39, 40] [] rfl (fun Ek y => (10, y.2.2.1.val y.2.2.2.1.length) :: (41, vI (y.2.2.2.2 : Int)) :: Ek) (fun Mk y => [(br, obj 124 (reP (y.1.at τ.bt).r τ.bt y.2.1))] :: [(τ.bt, obj 91 (trP (y.1.at τ.bt)))] :: [((y.1.at τ.bt).bm, mObT (y.1.at τ.bt).bs (y.1.at τ.bt).L)] :: [((y.1.at τ.bt).bc, chOb (y.1.at τ.bt).bs (y.1.at τ.bt).ch (y.1.at τ.bt).sp)] :: ndSeg (y.1.at τ.bt).bs (y.1.at τ.bt).L :: y.2.2.1.seg 28 (HdC y.2.2.2.1) :: Mk) (fun y => (y.1.at τ.bt).ok ∧ Inj (y.1.at τ.bt).L ∧ y.2.2.1.ok 68 y.2.2.2.1.length (HdC y.2.2.2.1) ∧ y.2.2.2.1.length = y.2.2.2.2 + 1 ∧ y.2.2.2.2 ≤ n) (fun y => n - y.2.2.2.2) (τ, 0, VG.blk b38 1 [], [(rulesR e sp 1).first], 0) ⟨hτ, hIτ, vg_back (by rw [rowC_len hdP_tot]) (Nat.le_refl _) (by rw [List.append_nil, rowC_len hdP_tot]; rfl), rfl, Nat.zero_le _⟩ ⟨rfl, rfl, rfl, rfl, rfl, trivial⟩ ?_
    intro y hy
    obtain ⟨hy1, hy2, hy3, hy4, hy5⟩ := hy
    refine c_seq ?_
    refine c_region ?_
    refine seqq (o_y (y_lssZ rfl rfl) rfl ?_)
    refine c_nil ?_
    refine c_seq ?_
    refine c_if rfl (fun h42 => ?_) (fun h42 => ?_)
    ·
      obtain ⟨st, b, off, lc, T, fr, hA, hmem, hst⟩ := hsl y.2.2.2.2 (by omega)
      subst hA
      have Ist : InS b (.cells lc.toArray T fr) Rd := ⟨hmem⟩
      have hpk := pick_lt st.ahead y.2.2.2.1.length (by omega) (by omega)
      refine j_vgN (T := 28) (cs := HdC y.2.2.2.1) 10 y.2.2.1 rfl hy3 (by omega) (fun bT capT spT hcT hsT => ?_)
      refine c_skip ?_
      refine c_seq ?_
      refine c_block ?_
      refine c_seq ?_
      refine c_region ?_
      refine seqq (o_y (y_indexAddrS Tryz.runUnderlying23 Tryz.sizeOf46 rfl rfl (by omega)) rfl ?_)
      refine seqq (o_y (l_step (off := off) y.2.2.2.2 rfl (by omega) hst) rfl ?_)
      refine seqq (o_alloc (ps := [P1 (vI 0), P1 (vI 0), P1 (.int .i32 0), P1 (bv .u8 0#8)]) Tryz.zeroValue46 (by kernel_rfl) rfl (fun b12 => ?_))
      refine seqq (stN Tryz.sizeOf46 rfl rfl (by rfl) rfl (by rfl) ?_)
      refine c_nil ?_
      refine c_seq ?_
      refine d_reg 16 mixed rfl ?_
      refine d_y (i := 0) (k' := 1) rfl (by kernel_rfl) (y_move rfl) rfl ?_
      refine d_y (i := 2) (k' := 5) rfl (by kernel_rfl) (y_move rfl) rfl ?_
      refine d_y (i := 3) (k' := 13) rfl (by kernel_rfl) (y_fieldAddr Tryz.runUnderlying46 rfl Tryz.sizeOf3 rfl rfl) rfl ?_
      refine d_s (i := 4) (k' := 29) rfl (by kernel_rfl) (by kernel_rfl) (l1 Tryz.isAgg3 rfl (by rfl)) hss rfl ?_
      refine d_y (i := 5) (k' := 61) rfl (by kernel_rfl) (y_convZB UK.u64 Tryz.runUnderlying3 Tryz.runUnderlying48 rfl) rfl ?_
      refine d_y (i := 6) (k' := 125) rfl (by kernel_rfl) (y_move rfl) rfl ?_
      refine d_y (i := 7) (k' := 253) rfl (by kernel_rfl) (y_len (tys := #[]) Tryz.runUnderlying44 rfl) rfl ?_
      refine d_y (i := 8) (k' := 509) rfl (by kernel_rfl) (y_convZB UK.u64 Tryz.runUnderlying3 Tryz.runUnderlying48 rfl) rfl ?_
      refine d_y (i := 9) (k' := 1021) rfl (by kernel_rfl) (y_remB rfl rfl hpk.2) rfl ?_
      refine d_y (i := 10) (k' := 2045) rfl (by kernel_rfl) (y_convBI Tryz.runUnderlying48 Tryz.runUnderlying3 rfl (by have := hpk.1; omega)) rfl ?_
      refine d_y (i := 11) (k' := 4093) rfl (by kernel_rfl) (y_indexAddrS Tryz.runUnderlying44 Tryz.sizeOf28 rfl rfl (by omega)) rfl ?_
      refine d_s (i := 12) (k' := 8189) rfl (by kernel_rfl) (by kernel_rfl) (l_row Tryz.isAgg28 Tryz.sizeOf28 hdP_tot hd0 ((BitVec.ofInt 64 st.ahead % BitVec.ofInt 64 (y.2.2.2.1.length : Int)).toNat) rfl (by omega) hpk.1) hss rfl ?_
      refine d_s (i := 13) (k' := 16381) rfl (by kernel_rfl) (by kernel_rfl) (lN Tryz.isAgg46 Tryz.sizeOf46 rfl (by rfl)) hss rfl ?_
      refine d_cS (i := 1) (k' := 16383) rfl (by kernel_rfl) (by kernel_rfl) Tryz.call22 rfl (PureS.sub (relay_Tree br y.2.1 (y.1.at τ.bt))) hss rfl ?_
      refine d_cS (i := 14) (k' := 32767) rfl (by kernel_rfl) (by kernel_rfl) Tryz.call12 rfl (PureS.sub (law_Made (y.1.at τ.bt) hy1 (pickH y.2.2.2.1 st) st)) hss rfl ?_
      refine d_e (i := 15) (k' := 65535) rfl (by kernel_rfl) (o_alloc (ps := (hdP hd0)) Tryz.zeroValue28 (by kernel_rfl) rfl (fun b13 => d_keep hss ?_))
      refine d_e (i := 16) (k' := 131071) rfl (by kernel_rfl) (stN Tryz.sizeOf28 rfl rfl (by rfl) rfl (by rfl) ( d_past rfl ?_))
      refine d_end (by kernel_rfl) ?_
      refine c_seq ?_
      refine c_region ?_
      refine seqq (o_y (y_move rfl) rfl ?_)
      refine j_seg (T := [(bT, .cells (HdC y.2.2.2.1 ++ spT).toArray 28 (0, 0))]) (T' := (VG.blk bT capT spT).seg 28 (HdC y.2.2.2.1)) rfl ?_
      refine seqq (o_y (lN Tryz.isAgg28 Tryz.sizeOf28 rfl (by rfl)) rfl ?_)
      refine seqq (o_buildSlice (zs := [P1 (bv .u32 0#32), zleaf .u8 8 32, zleaf .u8 8 32, P1 (bv .u32 0#32), P1 (bv .u32 0#32), P1 (bv .u32 0#32)]) Tryz.runUnderlying44 Tryz.sizeOf28 Tryz.zeroValue28 (by kernel_rfl) rfl rfl (.agg rfl .nil) (by rfl) rfl (fun b62 => ?_))
      refine seqq (o_appHd (a := (madeH (y.1.at τ.bt).s (pickH y.2.2.2.1 st) st)) (VG.blk bT capT spT) rfl rfl rfl rfl (vg_back (by rw [rowC_len hdP_tot]) hcT hsT) (by rfl) (by omega) rfl (fun g2 hg2 => ?_))
      refine seqq (o_y (y_assign rfl) rfl ?_)
      refine c_nil ?_
      refine c_region ?_
      refine seqq (o_y (y_move rfl) rfl ?_)
      refine seqq (o_y (lN Tryz.isAgg28 Tryz.sizeOf28 rfl (by rfl)) rfl ?_)
      refine seqq (o_newsl (T := 5) (cs := By (hdB (madeH (y.1.at τ.bt).s (pickH y.2.2.2.1 st) st))) Tryz.call24 rfl rfl (fun w hw => hdr_Bytes (madeH (y.1.at τ.bt).s (pickH y.2.2.2.1 st) st) w) (fun gB hgB => ?_))
      refine seqq (o_own5 (X := Tr) (v := fun _ => .tuple #[vagg (toldP (toldT (y.1.at τ.bt).s (madeH (y.1.at τ.bt).s (pickH y.2.2.2.1 st) st))), vI ((y.1.at τ.bt).s.err (madeH (y.1.at τ.bt).s (pickH y.2.2.2.1 st) st))]) (p := fun z => (z.at τ.bt).ok ∧ (z.at τ.bt).s = (y.1.at τ.bt).s.add (madeH (y.1.at τ.bt).s (pickH y.2.2.2.1 st) st)) (relM br y.2.1 (y.1.at τ.bt)) (A := fun z => [(br, obj 124 (reP (z.at τ.bt).r τ.bt (deepT (y.1.at τ.bt).s y.2.1 (madeH (y.1.at τ.bt).s (pickH y.2.2.2.1 st) st))))]) (B := fun z => [(τ.bt, obj 91 (trP (z.at τ.bt)))]) (C := fun z => [((z.at τ.bt).bm, mObT (z.at τ.bt).bs (z.at τ.bt).L)]) (A' := fun z => [((z.at τ.bt).bc, chOb (z.at τ.bt).bs (z.at τ.bt).ch (z.at τ.bt).sp)]) (B' := fun z => ndSeg (z.at τ.bt).bs (z.at τ.bt).L) Tryz.call23 rfl rfl (fun w hw => relay_Submit br y.2.1 (y.1.at τ.bt) hy1 (madeH (y.1.at τ.bt).s (pickH y.2.2.2.1 st) st) (hdB (madeH (y.1.at τ.bt).s (pickH y.2.2.2.1 st) st)) (by rw [hdB_len]; decide) (parse_hdB (madeH (y.1.at τ.bt).s (pickH y.2.2.2.1 st) st)) (gB.val (By (hdB (madeH (y.1.at τ.bt).s (pickH y.2.2.2.1 st) st))).length) [gB.seg 5 (By (hdB (madeH (y.1.at τ.bt).s (pickH y.2.2.2.1 st) st)))] (fun w hw => by rw [by_len] at hgB ⊢; exact vg_reads (e := 5) hgB (fun p hp => hw p (by simpa using hp))) w (hw.lessR (sub_right (N := [gB.seg 5 (By (hdB (madeH (y.1.at τ.bt).s (pickH y.2.2.2.1 st) st)))])))) (fun z hz => ?_))
      obtain ⟨hz1, hz2⟩ := hz
      have hIz : Inj (z.at τ.bt).L := by rw [show (z.at τ.bt).L = ((y.1.at τ.bt).s.add (madeH (y.1.at τ.bt).s (pickH y.2.2.2.1 st) st)).L from congrArg TS.L hz2]; exact inj_add hy2 _
      refine c_nil ?_
      refine c_region ?_
      refine seqq (o_y (y_addI rfl rfl (by omega)) rfl ?_)
      refine j_re 68 rfl (show _ = vI ((y.2.2.2.2 + 1 : Nat) : Int) from rfl) ?_
      refine seqq (o_y (y_move rfl) rfl ?_)
      refine c_nil ?_
      exact c_next (z, deepT (y.1.at τ.bt).s y.2.1 (madeH (y.1.at τ.bt).s (pickH y.2.2.2.1 st) st), g2, y.2.2.2.1 ++ [(madeH (y.1.at τ.bt).s (pickH y.2.2.2.1 st) st)], y.2.2.2.2 + 1) ⟨hz1, hIz, hg2, by simp [hy4], by dsimp only; omega⟩ (by dsimp only; omega) ⟨rfl, rfl, rfl, rfl, rfl, trivial⟩
    ·
      refine c_exit ?_
      refine c_seq ?_
      refine c_region ?_
      refine seqq (o_y (y_move rfl) rfl ?_)
      refine seqq (o_pureS Tryz.call22 rfl (PureS.sub (relay_Tree br y.2.1 (y.1.at τ.bt))) rfl ?_)
      refine seqq (o_new1 (X := VG) (v := fun g => g.val (lineH (y.1.at τ.bt).s).length) (A := fun g => g.seg 26 (HsC (lineH (y.1.at τ.bt).s))) (p := fun g => g.ok 32 (lineH (y.1.at τ.bt).s).length (HsC (lineH (y.1.at τ.bt).s))) Tryz.call25 rfl rfl (fun w hw => law_line (y.1.at τ.bt) hy1 w (fun p hp => hw p (sub_right (N := treeM (y.1.at τ.bt)) p hp))) (fun gL hgL => ?_))
      refine seqq (o_y (y_assign rfl) rfl ?_)
      have hll : (lineH (y.1.at τ.bt).s).length = (y.1.at τ.bt).ch.length := lineH_len (y.1.at τ.bt).s
      have hcne := hy1.c.ne
      have hcl := ch_le hy1.l hy1.c
      have hbig := hy1.l.big
      refine j_vgN (T := 26) (cs := HsC (lineH (y.1.at τ.bt).s)) 14 gL rfl hgL (by omega) (fun bL capL spL hcL hsL => ?_)
      refine j_vgN (T := 28) (cs := HdC y.2.2.2.1) 10 y.2.2.1 rfl hy3 (by omega) (fun bT capT spT hcT hsT => ?_)
      refine c_nil ?_
      refine c_seq ?_
      refine c_seq ?_
      refine c_region ?_
      refine seqq (o_y (y_move rfl) rfl ?_)
      refine seqq (o_y (y_len (tys := #[]) Tryz.runUnderlying71 rfl) rfl ?_)
      refine seqq (o_y (y_move rfl) rfl ?_)
      refine c_nil ?_
      refine c_block ?_
      refine c_while (X := Nat) [8, 10, 14, 72, 73] [bL, bT] rfl (fun Ek i => (74, vI (i : Int)) :: Ek) (fun Mk i => [(br, obj 124 (reP (y.1.at τ.bt).r τ.bt y.2.1))] :: [(τ.bt, obj 91 (trP (y.1.at τ.bt)))] :: [((y.1.at τ.bt).bm, mObT (y.1.at τ.bt).bs (y.1.at τ.bt).L)] :: [((y.1.at τ.bt).bc, chOb (y.1.at τ.bt).bs (y.1.at τ.bt).ch (y.1.at τ.bt).sp)] :: ndSeg (y.1.at τ.bt).bs (y.1.at τ.bt).L :: Mk) (fun i => i ≤ (lineH (y.1.at τ.bt).s).length) (fun i => (lineH (y.1.at τ.bt).s).length - i) 0 (Nat.zero_le _) ⟨rfl, rfl, rfl, rfl, rfl, rfl, trivial⟩ ?_
      intro i hi
      refine c_seq ?_
      refine c_region ?_
      refine seqq (o_y (y_lssZ rfl rfl) rfl ?_)
      refine c_nil ?_
      refine c_seq ?_
      refine c_if rfl (fun h75 => ?_) (fun h75 => ?_)
      ·
        have hlt : i < (y.1.at τ.bt).s.ch.length := by have := lineH_len (y.1.at τ.bt).s; omega
        refine c_skip ?_
        refine c_seq ?_
        refine c_block ?_
        refine c_seq ?_
        refine c_region ?_
        refine seqq (o_y (y_move rfl) rfl ?_)
        refine seqq (o_y (y_indexAddrS Tryz.runUnderlying71 Tryz.sizeOf26 rfl rfl (by omega)) rfl ?_)
        refine seqq (o_y (l_hs i rfl (by omega) (by omega)) rfl ?_)
        refine seqq (o_alloc (ps := [hP h0]) Tryz.zeroValue26 (by kernel_rfl) rfl (fun b16 => ?_))
        refine seqq (o_y (y_assign rfl) rfl ?_)
        refine seqq (stN Tryz.sizeOf26 rfl rfl (by rfl) rfl (by rfl) ?_)
        refine c_nil ?_
        refine c_seq ?_
        refine c_region ?_
        refine seqq (o_y (y_move rfl) rfl ?_)
        refine seqq (o_y (lN Tryz.isAgg26 Tryz.sizeOf26 rfl (by rfl)) rfl ?_)
        refine seqq (o_pureS Tryz.call26 rfl (PureS.sub (relay_Depth br y.2.1 (y.1.at τ.bt) hy1 ((lineH (y.1.at τ.bt).s).getD i h0))) rfl ?_)
        refine seqq (o_y (y_move rfl) rfl ?_)
        refine seqq (o_y (y_len (tys := #[]) Tryz.runUnderlying71 rfl) rfl ?_)
        refine seqq (o_y (y_move rfl) rfl ?_)
        refine seqq (o_y (y_subI rfl rfl (by omega)) rfl ?_)
        refine seqq (o_y (y_neqZ rfl rfl) rfl ?_)
        refine j_re 86 rfl (V.decNF (by rw [lineH_get _ i hlt, depth_ch (s := (y.1.at τ.bt).s) hy1.c hy2 hlt, lineH_len])) ?_
        refine c_nil ?_
        refine c_condF rfl ?_
        refine c_skip ?_
        refine c_region ?_
        refine seqq (o_y (y_addI rfl rfl (by omega)) rfl ?_)
        refine j_re 87 rfl (show _ = vI ((i + 1 : Nat) : Int) from rfl) ?_
        refine seqq (o_y (y_move rfl) rfl ?_)
        refine c_nil ?_
        exact c_next (i + 1) (by omega) (by omega) ⟨rfl, rfl, rfl, rfl, rfl, rfl, trivial⟩
      ·
        refine c_exit ?_
        refine c_seq ?_
        refine c_seq ?_
        refine c_region ?_
        refine seqq (o_y (y_move rfl) rfl ?_)
        refine seqq (o_y (y_len (tys := #[]) Tryz.runUnderlying44 rfl) rfl ?_)
        refine seqq (o_y (y_move rfl) rfl ?_)
        refine c_nil ?_
        refine c_block ?_
        refine c_while (X := Nat) [8, 14, 88, 89] [bL, bT] rfl (fun Ek i => (90, vI (i : Int)) :: Ek) (fun Mk i => [(br, obj 124 (reP (y.1.at τ.bt).r τ.bt y.2.1))] :: [(τ.bt, obj 91 (trP (y.1.at τ.bt)))] :: [((y.1.at τ.bt).bm, mObT (y.1.at τ.bt).bs (y.1.at τ.bt).L)] :: [((y.1.at τ.bt).bc, chOb (y.1.at τ.bt).bs (y.1.at τ.bt).ch (y.1.at τ.bt).sp)] :: ndSeg (y.1.at τ.bt).bs (y.1.at τ.bt).L :: Mk) (fun i => i ≤ y.2.2.2.1.length) (fun i => y.2.2.2.1.length - i) 0 (Nat.zero_le _) ⟨rfl, rfl, rfl, rfl, rfl, trivial⟩ ?_
        intro i hi
        refine c_seq ?_
        refine c_region ?_
        refine seqq (o_y (y_lssZ rfl rfl) rfl ?_)
        refine c_nil ?_
        refine c_seq ?_
        refine c_if rfl (fun h91 => ?_) (fun h91 => ?_)
        ·
          refine c_skip ?_
          refine c_seq ?_
          refine c_block ?_
          refine c_seq ?_
          refine c_region ?_
          refine seqq (o_y (y_indexAddrS Tryz.runUnderlying44 Tryz.sizeOf28 rfl rfl (by omega)) rfl ?_)
          refine seqq (o_y (l_row Tryz.isAgg28 Tryz.sizeOf28 hdP_tot hd0 i rfl (by omega) (by omega)) rfl ?_)
          refine seqq (o_alloc (ps := (hdP hd0)) Tryz.zeroValue28 (by kernel_rfl) rfl (fun b18 => ?_))
          refine seqq (stN Tryz.sizeOf28 rfl rfl (by rfl) rfl (by rfl) ?_)
          refine c_nil ?_
          refine c_seq ?_
          refine c_region ?_
          refine seqq (o_y (lN Tryz.isAgg28 Tryz.sizeOf28 rfl (by rfl)) rfl ?_)
          refine seqq (o_pure Tryz.call27 rfl (hdr_Hash _) rfl ?_)
          refine seqq (o_alloc (ps := [hP h0]) Tryz.zeroValue26 (by kernel_rfl) rfl (fun b19 => ?_))
          refine seqq (stN Tryz.sizeOf26 rfl rfl (by rfl) rfl (by rfl) ?_)
          refine c_nil ?_
          refine c_seq ?_
          refine c_region ?_
          refine seqq (o_y (y_move rfl) rfl ?_)
          refine seqq (o_y (lN Tryz.isAgg26 Tryz.sizeOf26 rfl (by rfl)) rfl ?_)
          refine seqq (o_pureS Tryz.call28 rfl (PureS.sub (law_in_blk bL capL (lineH (y.1.at τ.bt).s) spL (hashH (y.2.2.2.1.getD i hd0)) (by omega))) rfl ?_)
          refine seqq (o_y (y_not rfl) rfl ?_)
          refine seqq (o_y (y_move rfl) rfl ?_)
          refine j_ifn 100 rfl (fun h100 => ?_) (fun h100 => ?_)
          ·
            refine seqq (guard_true rfl rfl (o_y (y_move rfl) rfl ?_))
            refine seqq (guard_true rfl rfl (o_y (lN Tryz.isAgg26 Tryz.sizeOf26 rfl (by rfl)) rfl ?_))
            refine seqq (guard_true rfl rfl (o_pureS Tryz.call26 rfl (PureS.sub (relay_Depth br y.2.1 (y.1.at τ.bt) hy1 (hashH (y.2.2.2.1.getD i hd0)))) rfl ?_))
            refine seqq (guard_true rfl rfl (o_y (y_neqZ rfl rfl) rfl ?_))
            refine j_re 104 rfl (V.decNF (depth_out hy1.l h100)) ?_
            refine seqq (o_y (y_pick_t rfl rfl) rfl ?_)
            refine c_nil ?_
            refine c_condF rfl ?_
            refine c_skip ?_
            refine c_region ?_
            refine seqq (o_y (y_addI rfl rfl (by omega)) rfl ?_)
            refine j_re 106 rfl (show _ = vI ((i + 1 : Nat) : Int) from rfl) ?_
            refine seqq (o_y (y_move rfl) rfl ?_)
            refine c_nil ?_
            exact c_next (i + 1) (by omega) (by omega) ⟨rfl, rfl, rfl, rfl, rfl, trivial⟩
          ·
            refine seqq (guard_false (c := false) rfl rfl rfl rfl ?_)
            refine seqq (guard_false (c := false) rfl rfl rfl rfl ?_)
            refine seqq (guard_false (c := false) rfl rfl rfl rfl ?_)
            refine seqq (guard_false (c := false) rfl rfl rfl rfl ?_)
            refine seqq (o_y (y_pick_f rfl rfl) rfl ?_)
            refine c_nil ?_
            refine c_condF rfl ?_
            refine c_skip ?_
            refine c_region ?_
            refine seqq (o_y (y_addI rfl rfl (by omega)) rfl ?_)
            refine j_re 106 rfl (show _ = vI ((i + 1 : Nat) : Int) from rfl) ?_
            refine seqq (o_y (y_move rfl) rfl ?_)
            refine c_nil ?_
            exact c_next (i + 1) (by omega) (by omega) ⟨rfl, rfl, rfl, rfl, rfl, trivial⟩
        ·
          refine c_exit ?_
          refine c_seq ?_
          refine c_region ?_
          refine seqq (o_y (y_move rfl) rfl ?_)
          refine seqq (o_y (y_len (tys := #[]) Tryz.runUnderlying71 rfl) rfl ?_)
          refine seqq (o_y (y_gtrZ rfl rfl) rfl ?_)
          refine j_re 109 rfl (V.decT (by omega)) ?_
          refine seqq (o_y (y_move rfl) rfl ?_)
          refine seqq (guard_true rfl rfl (o_y (y_move rfl) rfl ?_))
          refine seqq (guard_true rfl rfl (o_y (y_move rfl) rfl ?_))
          refine seqq (guard_true rfl rfl (o_pureS Tryz.call22 rfl (PureS.sub (relay_Tree br y.2.1 (y.1.at τ.bt))) rfl ?_))
          refine seqq (guard_true rfl rfl (o_pureS Tryz.call14 rfl (PureS.sub (tree_Best (y.1.at τ.bt) hy1)) rfl ?_))
          refine seqq (guard_true rfl rfl (o_pureS Tryz.call26 rfl (PureS.sub (relay_Depth br y.2.1 (y.1.at τ.bt) hy1 (bestH (y.1.at τ.bt).s))) rfl ?_))
          refine seqq (guard_true rfl rfl (o_y (y_eqlZ rfl rfl) rfl ?_))
          refine j_re 116 rfl (V.decT (depth_best hy1.c hy2)) ?_
          refine seqq (o_y (y_pick_t rfl rfl) rfl ?_)
          refine seqq (o_y (y_assign rfl) rfl ?_)
          refine c_nil ?_
          refine c_ret ?_
          refine c_done1 Tryz.results5 (.tmp rfl) (fun w hS => ?_)
          exact ⟨rfl, hS.none⟩
