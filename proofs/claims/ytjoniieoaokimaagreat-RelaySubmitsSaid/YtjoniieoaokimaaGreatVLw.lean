/- Walks and laws of this claim, part Lw. -/
import Derived.Test.YtjoniieoaokimaaGreatVRel
set_option linter.unusedVariables false
set_option linter.unusedSimpArgs false
set_option linter.unusedSectionVars false
set_option autoImplicit true
set_option relaxedAutoImplicit true
set_option maxRecDepth 100000
set_option maxHeartbeats 1000000
namespace Go.Proofs
open V
/-! ### what the laws begin with -/
theorem vMine_eq (o : Option Hd) : vMine o = .tuple #[vHd (o.getD hd0), .bool o.isSome] := by cases o <;> rfl
def hF1 : Hd := ⟨1#32, h0, h0, 1000#32, 545259519#32, 0#32⟩
def firstH : Hd := (mineR hF1 (1000#32).toNat).getD hd0
def rulesR (e : Int) (sp : BitVec 32) (c : Int) : Rl := ⟨2 + ((BitVec.ofInt 64 e % 6#64).toNat : Int), 1#32 + sp % 1000#32, 545259519#32, 1 + ((BitVec.ofInt 64 c % 4#64).toNat : Int), firstH⟩
theorem umod_lt (x k : BitVec 64) (n : Nat) (hk : k.toNat = n) (h0 : 0 < n) : (x % k).toNat < n := by rw [BitVec.toNat_umod, hk]; exact Nat.mod_lt _ h0

theorem law_Rules (e : Int) (sp : BitVec 32) (c : Int) : Pure Tryz.prog 9 [vI e, bv .u32 sp, vI c] (vRl (rulesR e sp c)) := by
  intro w
  have h6 := umod_lt (BitVec.ofInt 64 e) 6#64 6 rfl (by decide)
  have h4 := umod_lt (BitVec.ofInt 64 c) 4#64 4 rfl (by decide)
  refine begin0 Tryz.func9 rfl Tryz.ntmps9 rfl ?_
  refine c_seq ?_
  refine c_region ?_
  refine seqq (o_alloc (ps := [P1 (vI 0), P1 (bv .u32 0#32), P1 (bv .u32 0#32), P1 (vI 0), P1 (bv .u32 0#32), zleaf .u8 8 32, zleaf .u8 8 32, P1 (bv .u32 0#32), P1 (bv .u32 0#32), P1 (bv .u32 0#32)]) Tryz.zeroValue30 (by kernel_rfl) rfl (fun b6 => ?_))
  refine c_nil ?_
  refine c_seq ?_
  refine c_region ?_
  refine seqq (o_y (y_build (zs := (hdP hd0)) (pl := [(0, 1), (1, 32), (33, 32), (65, 1), (66, 1), (67, 1)]) Tryz.runUnderlying28 Tryz.zeroValue28 (by kernel_rfl) (fun w => by kernel_rfl) (.one (v := bv .u32 1#32) rfl rfl (.one (v := bv .u32 1000#32) rfl rfl (.one (v := bv .u32 545259519#32) rfl rfl .nil))) (by rfl)) rfl ?_)
  refine seqq (o_pure Tryz.call35 rfl (hdr_Mine hF1 1000#32) rfl ?_)
  refine j_re 11 rfl (vMine_eq _) ?_
  refine seqq (o_y (y_move rfl) rfl ?_)
  refine seqq (o_y (y_extract rfl rfl) rfl ?_)
  refine seqq (o_y (y_extract rfl rfl) rfl ?_)
  refine seqq (o_alloc (ps := (hdP hd0)) Tryz.zeroValue28 (by kernel_rfl) rfl (fun b7 => ?_))
  refine seqq (stN Tryz.sizeOf28 rfl rfl (by rfl) rfl (by rfl) ?_)
  refine seqq (o_y (y_assign rfl) rfl ?_)
  refine c_nil ?_
  refine c_seq ?_
  refine c_region ?_
  refine seqq (o_y (y_move rfl) rfl ?_)
  refine seqq (o_y (y_convZB UK.u64 Tryz.runUnderlying3 Tryz.runUnderlying48 rfl) rfl ?_)
  refine seqq (o_y (y_remB (Y := 6#64) rfl rfl (by decide)) rfl ?_)
  refine seqq (o_y (y_convBI Tryz.runUnderlying48 Tryz.runUnderlying3 rfl (by omega)) rfl ?_)
  refine seqq (o_y (y_addI rfl rfl (by omega)) rfl ?_)
  refine seqq (o_y (y_move rfl) rfl ?_)
  refine seqq (o_y (y_remB (Y := 1000#32) rfl rfl (by decide)) rfl ?_)
  refine seqq (o_y (y_addB (X := 1#32) UK.u32 rfl rfl) rfl ?_)
  refine seqq (o_y (y_move rfl) rfl ?_)
  refine seqq (o_y (y_convZB UK.u64 Tryz.runUnderlying3 Tryz.runUnderlying48 rfl) rfl ?_)
  refine seqq (o_y (y_remB (Y := 4#64) rfl rfl (by decide)) rfl ?_)
  refine seqq (o_y (y_convBI Tryz.runUnderlying48 Tryz.runUnderlying3 rfl (by omega)) rfl ?_)
  refine seqq (o_y (y_addI rfl rfl (by omega)) rfl ?_)
  refine seqq (o_y (lN Tryz.isAgg28 Tryz.sizeOf28 rfl (by rfl)) rfl ?_)
  refine seqq (o_y (y_build (zs := [P1 (vI 0), P1 (bv .u32 0#32), P1 (bv .u32 0#32), P1 (vI 0), P1 (bv .u32 0#32), zleaf .u8 8 32, zleaf .u8 8 32, P1 (bv .u32 0#32), P1 (bv .u32 0#32), P1 (bv .u32 0#32)]) (pl := [(0, 1), (1, 1), (2, 1), (3, 1), (4, 68)]) Tryz.runUnderlying30 Tryz.zeroValue30 (by kernel_rfl) (fun w => by kernel_rfl) (.one rfl rfl (.one rfl rfl (.one (v := bv .u32 545259519#32) rfl rfl (.one rfl rfl (.agg rfl .nil))))) (by rfl)) rfl ?_)
  refine seqq (stN Tryz.sizeOf30 rfl rfl (by rfl) rfl (by rfl) ?_)
  refine c_nil ?_
  refine c_ret ?_
  refine c_done1 Tryz.results9 (rN Tryz.isAgg30 Tryz.sizeOf30 rfl (by rfl)) (fun w hS => ?_)
  exact ⟨rfl, hS.none⟩

/-- a step -/
structure Stp where
  kind : Int
  ahead : Int
  late : Int
  root : BitVec 8
def stP (s : Stp) : List Part := [P1 (vI s.kind) rfl, P1 (vI s.ahead) rfl, P1 (.int .i32 s.late) rfl, P1 (bv .u8 s.root) rfl]
def vSt (s : Stp) : Value := vagg (stP s)
def rootH (b : BitVec 8) : H32 := ⟨b :: List.replicate 31 0#8, rfl⟩
def flip5 (h : H32) : H32 := ⟨h.1.set 5 (h.1.getD 5 0#8 ^^^ 1#8), by simp [h.2]⟩
def adjH (kind : Int) (h : Hd) : Hd := if kind = 1 then ⟨h.ver, h.ahead, h.root, h.time, h.bits ^^^ 1#32, h.nonce⟩ else if kind = 3 then ⟨h.ver, flip5 h.ahead, h.root, h.time, h.bits, h.nonce⟩ else h
def spoil : Hd → Nat → Hd
  | m, 0 => m
  | m, n + 1 => if ¬ checkH (bump m) (M256 - 1 - 0) = 0 then bump m else spoil (bump m) n
def baseH (s : TS) (a : Hd) (x : Stp) : Hd := ⟨2#32, hashH a, rootH x.root, a.time + BitVec.ofInt 32 (x.late.tmod 2000), (bitsH s.r s.L (hashH a)).1, 0#32⟩
def minedH (h : Hd) : Hd := (mineR h (400#32).toNat).getD h
def madeH (s : TS) (a : Hd) (x : Stp) : Hd :=
  if x.kind = 2 then spoil (minedH (adjH x.kind (baseH s a x))) 20 else minedH (adjH x.kind (baseH s a x))
theorem mined_none {h : Hd} (e : (!(mineR h (400#32).toNat).isSome) = true) : minedH h = h := by
  rw [minedH]; cases hm : mineR h (400#32).toNat with
  | none => rfl
  | some m => rw [hm] at e; cases e
theorem mined_some {h : Hd} (e : (!(mineR h (400#32).toNat).isSome) = false) : minedH h = (mineR h (400#32).toNat).getD hd0 := by
  rw [minedH]; cases hm : mineR h (400#32).toNat with
  | none => rw [hm] at e; cases e
  | some m => rfl
section
variable {P : Program} {ops : Array Oper} {Q : Exit → Act → World → Prop} {K : Act → World → Prop} {n : Nat} {D : List Deferred} {E : Env} {σ : Bs} {M M' N : List Seg} {x y : Operand} {ty : TypeId} {pos : String} {after : Array Edge}
theorem y_remZ {k : IntKind} {p q : Int} {T U : TypeId} {S : World → Prop} (hq : q ≠ 0) (hx : val E x = some (.int k p)) (hy : val E y = some (.int k q)) : Yl P S E (.binOp .rem T x y U) (.int k (p.tmod q)) :=
  y_binZ hx hy (fun w => by simp [binOp, Op.intDiv, hq, pure, Sem.run])
/-- one cell, where the cells are told -/
theorem o_storeO {T T0 b off i : Nat} {ps rs : List Part} {v : Value} (o' : Nat) (hm : ∀ w, (sizeOf T).run P w = .ok 1 w) (hx : val E x = some (.pointer (some ⟨b, off, none⟩))) (hy : val E y = some v) (h1 : one1 v = true)
    (ho : off = o') (hov : over (flat ps) o' [v] = flat rs) (hle : o' + 1 ≤ (flat ps).length) [hu : Pos b (obj T0 ps) M i] (hs : setSeg M i [(b, obj T0 rs)] [] = some M')
    (h : J n D E σ M' K) : J n D E σ M (Op1 P ops Q ⟨none, .store T x y, ty, pos, after, none⟩ K) := by
  have hup := pos_upd hu hs
  subst ho
  intro a w hA hS
  obtain ⟨w', r1, r2, r3, r4, r5, r6, r7⟩ := storeCells_run (P := P) [v] w b off 0 (flat ps) T0 (hS.own _ hup.mem.1) (by simpa using hle) (by intro u hu'; simp at hu'; subst hu'; exact h1)
  have hc : v.cells = [v].toArray := (IsP.one h1).cells
  have hl : ([v].toArray).size = 1 := rfl
  have hrun : (execOp a.eval ⟨none, .store T x y, ty, pos, after, none⟩).run P w = .ok .skip w' := by
    simp only [execOp, hA.eval hx, hA.eval hy, Instr.storeAt, Instr.sureAddr, storeVar, hc, Sem.run_bind, hm, Result.andThen, pure, Sem.run, hl, ne_eq, not_true_eq_false, if_false, r1]
  refine op1_run rfl hrun ?_
  simp only [Oper.upon, Act.put]
  exact h a w' hA (hS.upd hup r2 r3 r4 r5 (by rw [r6, Nat.add_zero, hov]; rfl) r7)
theorem l_over {T b off T0 : Nat} {ps : List Part} {v : Value} (o' : Nat) (hA : ∀ w, (isAgg T).run P w = .ok false w) (hx : val E x = some (.pointer (some ⟨b, off, none⟩))) [hm : InS b (obj T0 ps) N] (ho : off = o') (hc : (flat ps)[o']? = some v) :
    Yl P (Pts N) E (.load T x) v := y_loadC hA hx (fun w hw => by
  have h1 := hw _ hm.mem
  subst ho
  simp only [World.cell?, h1, obj]
  simpa using hc)
end
theorem y_toV {P : Program} {S : World → Prop} {E : Env} {op : Op} {v v' : Value} (he : v = v') (h : Yl P S E op v) : Yl P S E op v' := he ▸ h
theorem y_root {E : Env} {x : Operand} {S : World → Prop} {b : BitVec 8} (hx : val E x = some (bv .u8 b)) : Yl Tryz.prog S E (.build 26 #[(0, x)]) (vH (rootH b)) :=
  y_toV (v := vagg (P1 (bv .u8 b) :: List.replicate 31 (P1 (bv .u8 0#8)))) rfl (y_buildA (xs := [(0, x)]) (zs := P1 (bv .u8 0#8) :: List.replicate 31 (P1 (bv .u8 0#8))) (qs := P1 (bv .u8 b) :: List.replicate 31 (P1 (bv .u8 0#8))) Tryz.runUnderlying26 Tryz.sizeOf5 Tryz.zeroValue26 (by kernel_rfl) (.one hx rfl .nil) (by rfl))
theorem ah_get (h : Hd) : (flat (hdP h))[6]? = some (bv .u8 (h.ahead.1.getD 5 0#8)) := by
  have := h.ahead.2
  have h5 : 5 < h.ahead.1.length := by omega
  simp only [hdP, flat, P1, hP, leaf, List.cons_append, List.nil_append, List.getElem?_cons_succ]
  rw [List.getElem?_append_left (by simpa using h5)]
  simp [List.getElem?_eq_getElem h5]
theorem ah_over (h : Hd) : over (flat (hdP h)) 6 [bv .u8 (h.ahead.1.getD 5 0#8 ^^^ 1#8)] = flat (hdP ⟨h.ver, flip5 h.ahead, h.root, h.time, h.bits, h.nonce⟩) := by
  have := h.ahead.2
  have h5 : 5 < h.ahead.1.length := by omega
  have hl : 6 < (flat (hdP h)).length := by rw [flat_length]; exact (by decide : 6 < 68)
  have e : over (flat (hdP h)) 6 [bv .u8 (h.ahead.1.getD 5 0#8 ^^^ 1#8)] = (flat (hdP h)).set 6 (bv .u8 (h.ahead.1.getD 5 0#8 ^^^ 1#8)) := by
    rw [List.set_eq_take_append_cons_drop, if_pos hl]; simp [over]
  rw [e]
  simp only [hdP, flat, P1, hP, leaf, List.cons_append, List.nil_append, List.set_cons_succ, flip5]
  rw [List.set_append_left _ _ (by simpa using h5), List.map_set]

theorem law_Made (τ : Tr) (ok : τ.ok) (a : Hd) (x : Stp) : PureS Tryz.prog (Pts (treeM τ)) 12 [.pointer (some ⟨τ.bt, 0, none⟩), vHd a, vSt x] (vHd (madeH τ.s a x)) := by
  intro w hw
  have hml : M256 - 1 - 0 < M256 := by decide
  refine beginR Tryz.func12 rfl Tryz.ntmps12 rfl hw ?_
  refine c_seq ?_
  refine c_region ?_
  refine seqq (o_box (T := 28) rfl (IsP.agg).cells rfl (fun b4 => ?_))
  refine seqq (o_box (T := 46) rfl (IsP.agg).cells rfl (fun b5 => ?_))
  refine seqq (o_alloc (ps := (hdP hd0)) Tryz.zeroValue28 (by kernel_rfl) rfl (fun b6 => ?_))
  refine c_nil ?_
  refine c_seq ?_
  refine d_reg 14 mixed rfl ?_
  refine d_s (i := 0) (k' := 1) rfl (by kernel_rfl) (by kernel_rfl) (lN Tryz.isAgg28 Tryz.sizeOf28 rfl (by rfl)) hss rfl ?_
  refine d_y (i := 2) (k' := 5) rfl (by kernel_rfl) (y_fieldAddr Tryz.runUnderlying28 rfl Tryz.sizeOf22 rfl rfl) rfl ?_
  refine d_s (i := 3) (k' := 13) rfl (by kernel_rfl) (by kernel_rfl) (l1 Tryz.isAgg22 rfl (by rfl)) hss rfl ?_
  refine d_y (i := 4) (k' := 29) rfl (by kernel_rfl) (y_fieldAddr Tryz.runUnderlying46 rfl Tryz.sizeOf21 rfl rfl) rfl ?_
  refine d_s (i := 5) (k' := 61) rfl (by kernel_rfl) (by kernel_rfl) (l1 Tryz.isAgg21 rfl (by rfl)) hss rfl ?_
  refine d_y (i := 6) (k' := 125) rfl (by kernel_rfl) (y_remZ (by decide) rfl rfl) rfl ?_
  refine d_y (i := 7) (k' := 253) rfl (by kernel_rfl) (y_convZB UK.u32 Tryz.runUnderlying21 Tryz.runUnderlying22 rfl) rfl ?_
  refine d_y (i := 8) (k' := 509) rfl (by kernel_rfl) (y_addB UK.u32 rfl rfl) rfl ?_
  refine d_y (i := 9) (k' := 1021) rfl (by kernel_rfl) (y_fieldAddr Tryz.runUnderlying46 rfl Tryz.sizeOf5 rfl rfl) rfl ?_
  refine d_s (i := 10) (k' := 2045) rfl (by kernel_rfl) (by kernel_rfl) (l1 Tryz.isAgg5 rfl (by rfl)) hss rfl ?_
  refine d_y (i := 11) (k' := 4093) rfl (by kernel_rfl) (y_root rfl) rfl ?_
  refine d_c (i := 1) (k' := 4095) rfl (by kernel_rfl) Tryz.call27 rfl (hdr_Hash _) rfl ?_
  refine d_y (i := 12) (k' := 8191) rfl (by kernel_rfl) (y_build (zs := (hdP hd0)) (pl := [(0, 1), (1, 32), (33, 32), (65, 1), (66, 1), (67, 1)]) Tryz.runUnderlying28 Tryz.zeroValue28 (by kernel_rfl) (fun w => by kernel_rfl) (.one (v := bv .u32 2#32) rfl rfl (.agg rfl (.one rfl rfl (.agg rfl .nil)))) (by rfl)) rfl ?_
  refine d_e (i := 13) (k' := 16383) rfl (by kernel_rfl) (o_alloc (ps := (hdP hd0)) Tryz.zeroValue28 (by kernel_rfl) rfl (fun b7 => d_keep hss ?_))
  refine d_e (i := 14) (k' := 32767) rfl (by kernel_rfl) (stN Tryz.sizeOf28 rfl rfl (by rfl) rfl (by rfl) ( d_past rfl ?_))
  refine d_end (by kernel_rfl) ?_
  refine c_seq ?_
  refine c_region ?_
  refine seqq (o_y (y_move rfl) rfl ?_)
  refine seqq (o_y (y_fieldAddr Tryz.runUnderlying28 rfl Tryz.sizeOf26 rfl rfl) rfl ?_)
  refine seqq (o_y (lN Tryz.isAgg26 Tryz.sizeOf26 rfl (by rfl)) rfl ?_)
  refine seqq (o_pureS Tryz.call38 rfl (PureS.sub (tree_Bits τ ok (hashH a))) rfl ?_)
  refine seqq (o_y (y_move rfl) rfl ?_)
  refine seqq (o_y (y_extract rfl rfl) rfl ?_)
  refine seqq (o_y (y_extract rfl rfl) rfl ?_)
  refine seqq (o_y (y_fieldAddr Tryz.runUnderlying28 rfl Tryz.sizeOf22 rfl rfl) rfl ?_)
  refine seqq (st1 (h1 := rfl) Tryz.sizeOf22 rfl rfl (by rfl) (by rfl) ?_)
  refine c_nil ?_
  refine c_join (X := Unit) [0, 4, 5, 6, 7] [b5, b6] rfl (fun Ek _ => Ek) (fun Mk _ => [(b7, obj 28 (hdP (adjH x.kind (baseH τ.s a x))))] :: Mk) (fun _ => True) ?_ ?_
  ·
    refine c_seq ?_
    refine c_region ?_
    refine seqq (o_y (y_fieldAddr Tryz.runUnderlying46 rfl Tryz.sizeOf3 rfl rfl) rfl ?_)
    refine seqq (o_y (l1 Tryz.isAgg3 rfl (by rfl)) rfl ?_)
    refine j_obj b7 (ps' := hdP (baseH τ.s a x)) (rfl) (by rfl) ?_
    refine c_nil ?_
    refine c_block ?_
    refine c_seq ?_
    refine c_region ?_
    refine seqq (o_y (y_eqlZ rfl rfl) rfl ?_)
    refine seqq (o_y (y_assign rfl) rfl ?_)
    refine c_nil ?_
    refine c_if rfl (fun h33 => ?_) (fun h33 => ?_)
    ·
      refine c_region ?_
      refine seqq (o_y (y_fieldAddr Tryz.runUnderlying28 rfl Tryz.sizeOf22 rfl rfl) rfl ?_)
      refine seqq (o_y (l1 Tryz.isAgg22 rfl (by rfl)) rfl ?_)
      refine seqq (o_y (y_xorB (Y := 1#32) UK.u32 rfl rfl) rfl ?_)
      refine seqq (o_y (y_fieldAddr Tryz.runUnderlying28 rfl Tryz.sizeOf22 rfl rfl) rfl ?_)
      refine seqq (st1 (h1 := rfl) Tryz.sizeOf22 rfl rfl (by rfl) (by rfl) ?_)
      refine c_nil ?_
      refine j_obj b7 (ps' := hdP (adjH x.kind (baseH τ.s a x))) (by rw [adjH, if_pos h33]; rfl) (by rfl) ?_
      exact c_joined () trivial ⟨rfl, rfl, rfl, rfl, rfl, trivial⟩
    ·
      refine c_seq ?_
      refine c_region ?_
      refine seqq (o_y (y_eqlZ rfl rfl) rfl ?_)
      refine seqq (o_y (y_assign rfl) rfl ?_)
      refine c_nil ?_
      refine c_if rfl (fun h39 => ?_) (fun h39 => ?_)
      ·
        refine c_region ?_
        refine seqq (o_y (y_fieldAddr Tryz.runUnderlying28 rfl Tryz.sizeOf26 rfl rfl) rfl ?_)
        refine seqq (o_y (y_indexAddrA Tryz.runUnderlying26 Tryz.sizeOf5 rfl rfl (by decide)) rfl ?_)
        refine seqq (o_y (l_over 6 Tryz.isAgg5 rfl rfl (ah_get (baseH τ.s a x))) rfl ?_)
        refine seqq (o_y (y_xorB (Y := 1#8) UK.u8 rfl rfl) rfl ?_)
        refine seqq (o_y (y_fieldAddr Tryz.runUnderlying28 rfl Tryz.sizeOf26 rfl rfl) rfl ?_)
        refine seqq (o_y (y_indexAddrA Tryz.runUnderlying26 Tryz.sizeOf5 rfl rfl (by decide)) rfl ?_)
        refine seqq (o_storeO 6 Tryz.sizeOf5 rfl rfl rfl rfl (ah_over (baseH τ.s a x)) (by rw [flat_length]; exact (by decide : 7 ≤ 68)) (by rfl) ?_)
        refine c_nil ?_
        refine j_obj b7 (ps' := hdP (adjH x.kind (baseH τ.s a x))) (by rw [adjH, if_neg h33, if_pos h39]) (by rfl) ?_
        exact c_joined () trivial ⟨rfl, rfl, rfl, rfl, rfl, trivial⟩
      ·
        refine c_skip ?_
        refine j_obj b7 (ps' := hdP (adjH x.kind (baseH τ.s a x))) (by rw [adjH, if_neg h33, if_neg h39]) (by rfl) ?_
        exact c_joined () trivial ⟨rfl, rfl, rfl, rfl, rfl, trivial⟩
  ·
    intro _ _
    refine c_seq ?_
    refine c_region ?_
    refine seqq (o_y (lN Tryz.isAgg28 Tryz.sizeOf28 rfl (by rfl)) rfl ?_)
    refine seqq (o_pure Tryz.call35 rfl (hdr_Mine (adjH x.kind (baseH τ.s a x)) 400#32) rfl ?_)
    refine j_re 49 rfl (vMine_eq _) ?_
    refine seqq (o_y (y_move rfl) rfl ?_)
    refine seqq (o_y (y_extract rfl rfl) rfl ?_)
    refine seqq (o_y (y_extract rfl rfl) rfl ?_)
    refine seqq (o_alloc (ps := (hdP hd0)) Tryz.zeroValue28 (by kernel_rfl) rfl (fun b8 => ?_))
    refine seqq (stN Tryz.sizeOf28 rfl rfl (by rfl) rfl (by rfl) ?_)
    refine seqq (o_y (y_assign rfl) rfl ?_)
    refine c_nil ?_
    refine c_join (X := Unit) [0, 5, 6, 8] [b5, b6] rfl (fun Ek _ => Ek) (fun Mk _ => [(b8, obj 28 (hdP (minedH (adjH x.kind (baseH τ.s a x)))))] :: Mk) (fun _ => True) ?_ ?_
    ·
      refine c_seq ?_
      refine c_region ?_
      refine seqq (o_y (y_move rfl) rfl ?_)
      refine seqq (o_y (y_not rfl) rfl ?_)
      refine c_nil ?_
      refine c_cond rfl (fun h53 => ?_) (fun h53 => ?_)
      ·
        refine c_region ?_
        refine seqq (o_y (lN Tryz.isAgg28 Tryz.sizeOf28 rfl (by rfl)) rfl ?_)
        refine seqq (stN Tryz.sizeOf28 rfl rfl (by rfl) rfl (by rfl) ?_)
        refine c_nil ?_
        refine j_obj b8 (ps' := hdP (minedH (adjH x.kind (baseH τ.s a x)))) (congrArg hdP (mined_none h53).symm) (by rfl) ?_
        exact c_joined () trivial ⟨rfl, rfl, rfl, rfl, trivial⟩
      ·
        refine c_skip ?_
        refine j_obj b8 (ps' := hdP (minedH (adjH x.kind (baseH τ.s a x)))) (congrArg hdP (mined_some h53).symm) (by rfl) ?_
        exact c_joined () trivial ⟨rfl, rfl, rfl, rfl, trivial⟩
    ·
      intro _ _
      refine c_seq ?_
      refine c_seq ?_
      refine c_region ?_
      refine seqq (o_y (y_fieldAddr Tryz.runUnderlying46 rfl Tryz.sizeOf3 rfl rfl) rfl ?_)
      refine seqq (o_y (l1 Tryz.isAgg3 rfl (by rfl)) rfl ?_)
      refine seqq (o_y (y_eqlZ rfl rfl) rfl ?_)
      refine c_nil ?_
      refine c_if rfl (fun h57 => ?_) (fun h57 => ?_)
      ·
        refine c_seq ?_
        refine c_region ?_
        refine seqq (o_y (y_move rfl) rfl ?_)
        refine c_nil ?_
        refine c_block ?_
        refine c_while (X := Hd × Nat) [6, 8] [b6] rfl (fun Ek y => (58, vI (20 - (y.2 : Int))) :: Ek) (fun Mk y => [(b8, obj 28 (hdP y.1))] :: Mk) (fun y => y.2 ≤ 20 ∧ spoil y.1 y.2 = spoil (minedH (adjH x.kind (baseH τ.s a x))) 20) (fun y => y.2) (minedH (adjH x.kind (baseH τ.s a x)), 20) ⟨Nat.le_refl _, rfl⟩ ⟨rfl, rfl, rfl, trivial⟩ ?_
        intro y hy
        obtain ⟨hy1, hy2⟩ := hy
        refine c_seq ?_
        refine c_region ?_
        refine seqq (o_y (y_lssZ rfl rfl) rfl ?_)
        refine c_nil ?_
        refine c_seq ?_
        refine c_if rfl (fun h59 => ?_) (fun h59 => ?_)
        ·
          obtain ⟨m, hm⟩ : ∃ m, y.2 = m + 1 := ⟨y.2 - 1, by omega⟩
          refine c_skip ?_
          refine c_seq ?_
          refine c_block ?_
          refine c_seq ?_
          refine c_region ?_
          refine seqq (o_y (y_fieldAddr Tryz.runUnderlying28 rfl Tryz.sizeOf22 rfl rfl) rfl ?_)
          refine seqq (o_y (l1 Tryz.isAgg22 rfl (by rfl)) rfl ?_)
          refine seqq (o_y (y_addB (Y := 1#32) UK.u32 rfl rfl) rfl ?_)
          refine seqq (o_y (y_fieldAddr Tryz.runUnderlying28 rfl Tryz.sizeOf22 rfl rfl) rfl ?_)
          refine seqq (st1 (h1 := rfl) Tryz.sizeOf22 rfl rfl (by rfl) (by rfl) ?_)
          refine c_nil ?_
          refine c_seq ?_
          refine d_reg 5 mixed rfl ?_
          refine d_s (i := 0) (k' := 1) rfl (by kernel_rfl) (by kernel_rfl) (lN Tryz.isAgg28 Tryz.sizeOf28 rfl (by rfl)) hss rfl ?_
          refine d_y (i := 1) (k' := 3) rfl (by kernel_rfl) (y_buildA (zs := wideN 0) Tryz.runUnderlying51 Tryz.sizeOf49 Tryz.zeroValue51 (by kernel_rfl) .nil (by rfl)) rfl ?_
          refine d_c (i := 2) (k' := 7) rfl (by kernel_rfl) Tryz.call40 rfl (wide_Not 0 (by decide)) rfl ?_
          refine d_c (i := 3) (k' := 15) rfl (by kernel_rfl) Tryz.call39 rfl (hdr_Check (bump y.1) (M256 - 1 - 0) hml) rfl ?_
          refine d_y (i := 4) (k' := 31) rfl (by kernel_rfl) (y_neqZ rfl rfl) rfl ?_
          refine d_end (by kernel_rfl) ?_
          refine c_ifn rfl (fun h68 => ?_) (fun h68 => ?_)
          ·
            refine c_exit ?_
            refine c_seq ?_
            refine c_region ?_
            refine seqq (o_y (lN Tryz.isAgg28 Tryz.sizeOf28 rfl (by rfl)) rfl ?_)
            refine seqq (stN Tryz.sizeOf28 rfl rfl (by rfl) rfl (by rfl) ?_)
            refine c_nil ?_
            refine c_ret ?_
            refine c_done1 Tryz.results12 (rN Tryz.isAgg28 Tryz.sizeOf28 rfl (by rfl)) (fun w hS => ?_)
            exact ⟨by rw [madeH, if_pos h57, ← hy2, hm, spoil, if_pos h68]; rfl, hS.none⟩
          ·
            refine c_skip ?_
            refine c_region ?_
            refine seqq (o_y (y_addI rfl rfl (by omega)) rfl ?_)
            refine j_re 69 rfl (show _ = vI (20 - (m : Int)) from by congr 1; omega) ?_
            refine seqq (o_y (y_move rfl) rfl ?_)
            refine c_nil ?_
            refine j_obj b8 (ps' := hdP (bump y.1)) (rfl) (by rfl) ?_
            exact c_next (bump y.1, m) ⟨by dsimp only; omega, by rw [← hy2, hm, spoil, if_neg (by simpa using h68)]⟩ (by dsimp only; omega) ⟨rfl, rfl, rfl, trivial⟩
        ·
          refine c_exit ?_
          refine c_seq ?_
          refine c_region ?_
          refine seqq (o_y (lN Tryz.isAgg28 Tryz.sizeOf28 rfl (by rfl)) rfl ?_)
          refine seqq (stN Tryz.sizeOf28 rfl rfl (by rfl) rfl (by rfl) ?_)
          refine c_nil ?_
          refine c_ret ?_
          refine c_done1 Tryz.results12 (rN Tryz.isAgg28 Tryz.sizeOf28 rfl (by rfl)) (fun w hS => ?_)
          exact ⟨by rw [madeH, if_pos h57, ← hy2, show y.2 = 0 from by omega]; rfl, hS.none⟩
      ·
        refine c_skip ?_
        refine c_seq ?_
        refine c_region ?_
        refine seqq (o_y (lN Tryz.isAgg28 Tryz.sizeOf28 rfl (by rfl)) rfl ?_)
        refine seqq (stN Tryz.sizeOf28 rfl rfl (by rfl) rfl (by rfl) ?_)
        refine c_nil ?_
        refine c_ret ?_
        refine c_done1 Tryz.results12 (rN Tryz.isAgg28 Tryz.sizeOf28 rfl (by rfl)) (fun w hS => ?_)
        exact ⟨by rw [madeH, if_neg h57]; rfl, hS.none⟩
