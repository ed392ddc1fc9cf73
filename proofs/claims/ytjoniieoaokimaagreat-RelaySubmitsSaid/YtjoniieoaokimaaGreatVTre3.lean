/- Walks and laws of this claim, part Tre3. -/
import Derived.Test.YtjoniieoaokimaaGreatVTre2
set_option linter.unusedVariables false
set_option linter.unusedSimpArgs false
set_option linter.unusedSectionVars false
set_option autoImplicit true
set_option relaxedAutoImplicit true
set_option maxRecDepth 100000
set_option maxHeartbeats 1000000
namespace Go.Proofs
open V
/-! ### a block and all ahead of it -/
def lineT (L : List Nd) : Nat → Nat → List Nat
  | 0, i => [i]
  | n + 1, i => match (nd L i).ahead with
    | none => [i]
    | some j => lineT L n j ++ [i]
def lineI (L : List Nd) (i : Nat) : List Nat := lineT L (nd L i).height i
theorem line_step {L : List Nd} {i j : Nat} (h1 : (nd L i).ahead = some j) (h2 : (nd L i).height = (nd L j).height + 1) : lineI L i = lineI L j ++ [i] := by
  rw [lineI, h2, lineT, h1]; rfl
theorem line_zero {L : List Nd} {i : Nat} (h : (nd L i).height = 0) : lineI L i = [i] := by rw [lineI, h, lineT]
theorem getD_snoc_lt {l : List Nat} {x k : Nat} (h : k < l.length) : (l ++ [x]).getD k 0 = l.getD k 0 := by
  simp [List.getD, List.getElem?_append_left h]
theorem getD_snoc_eq {l : List Nat} {x : Nat} : (l ++ [x]).getD l.length 0 = x := by simp [List.getD]
theorem ChOk.snoc {L : List Nd} {ch : List Nat} (h : ChOk L ch) {i : Nat} (hi : i < L.length) (h1 : (nd L i).ahead = some (ch.getD (ch.length - 1) 0)) (h2 : (nd L i).height = ch.length) : ChOk L (ch ++ [i]) := by
  have hn := h.ne
  refine ⟨by simp, fun k hk => ?_, fun k hk => ?_, fun k hk => ?_⟩
  · simp only [List.length_append, List.length_cons, List.length_nil] at hk
    by_cases hkl : k < ch.length
    · rw [getD_snoc_lt hkl]; exact h.lt k hkl
    · have : k = ch.length := by omega
      subst this
      rw [getD_snoc_eq]; exact hi
  · simp only [List.length_append, List.length_cons, List.length_nil] at hk
    by_cases hkl : k < ch.length
    · rw [getD_snoc_lt hkl]; exact h.ht k hkl
    · have : k = ch.length := by omega
      subst this
      rw [getD_snoc_eq]; exact h2
  · simp only [List.length_append, List.length_cons, List.length_nil] at hk
    by_cases hkl : k + 1 < ch.length
    · rw [getD_snoc_lt hkl, getD_snoc_lt (by omega)]; exact h.step k hkl
    · have : k + 1 = ch.length := by omega
      rw [this, getD_snoc_eq, getD_snoc_lt (by omega), h1]
      congr 2; omega
theorem ChOk.one {L : List Nd} (h : LOk L) : ChOk L [0] :=
  ⟨by simp, fun k hk => by have : k = 0 := by simpa using hk
                           subst this; exact h.pos, fun k hk => by have : k = 0 := by simpa using hk
                                                                   subst this; exact h.root.2, fun k hk => by simp at hk⟩
theorem line_ok {L : List Nd} (h : LOk L) : ∀ i, i < L.length → ChOk L (lineI L i) ∧ (lineI L i).length = (nd L i).height + 1 ∧ (lineI L i).getD ((lineI L i).length - 1) 0 = i := by
  intro i
  induction i using Nat.strongRecOn with
  | _ i ih =>
    intro hi
    rcases Nat.eq_zero_or_pos i with rfl | h0
    · rw [line_zero h.root.2, h.root.2]; exact ⟨ChOk.one h, rfl, rfl⟩
    · obtain ⟨j, h1, h2, h3⟩ := h.step i h0 hi
      obtain ⟨c1, c2, c3⟩ := ih j h2 (by omega)
      rw [line_step h1 h3]
      refine ⟨c1.snoc hi (by rw [c3]; exact h1) (by rw [c2]; exact h3), by simp [c2, h3], ?_⟩
      rw [List.length_append, List.length_cons, List.length_nil, Nat.add_sub_cancel, getD_snoc_eq]
theorem line_take {L : List Nd} {ch : List Nat} (h : ChOk L ch) : ∀ k, k < ch.length → ch.take (k + 1) = lineI L (ch.getD k 0)
  | 0, hk => by
    rw [line_zero (h.ht 0 hk)]
    cases ch with
    | nil => simp at hk
    | cons x l => rfl
  | k + 1, hk => by
    have h1 := h.step k hk
    have h2 := h.ht (k + 1) hk
    have h3 := h.ht k (by omega)
    rw [line_step h1 (by omega), ← line_take h k (by omega), List.take_succ_eq_append_getElem hk]
    simp [List.getD, List.getElem?_eq_getElem hk]
theorem ins_ndS (bs : List Nat) (L : List Nd) (i : Nat) (h : i < L.length) : ∀ N, InS (bs.getD i 0) (obj 86 (ndP bs (nd L i))) (ndSeg bs L :: N) := fun N => ⟨by
  rw [List.flatten_cons, List.mem_append]; exact .inl (ndSeg_mem _ _ _ h)⟩
theorem chV_len (bs ch : List Nat) : (chV bs ch).length = ch.length := by simp [chV]
theorem chV_app (bs a b : List Nat) : chV bs (a ++ b) = chV bs a ++ chV bs b := by simp [chV]
/-- a place more -/
theorem o_appP {Q : Exit → Act → World → Prop} {K : Act → World → Prop} {ops : Array Oper} {n : Nat} {D : List Deferred} {E : Env} {σ : Bs} {M : List Seg} {x y : Operand} {ty : TypeId} {pos : String} {after : Array Edge} {t : Nat} {sv : Value} {bs ch : List Nat} {i b off cap T0 l : Nat} {ps : List Part} (g : VG) {F : List Seg}
    (hx : val E x = some sv) (hl : ch.length = l) (hsv : sv = g.val l) (hy : val E y = some (.slice (some ⟨b, off, none⟩) 1 cap)) (hok : g.ok 1 ch.length (chV bs ch))
    [hm : InS b (obj T0 ps) (σ.R ++ M)] (hq : spanAt ps off 1 = some [P1 (ptrI bs (some i)) rfl]) [hF : TakeC (g.seg 84 (chV bs ch)) M F]
    (hbig : ch.length ≤ 1099511627) (ht : Nat.blt t n = true)
    (h : ∀ g' : VG, g'.ok 1 (ch ++ [i]).length (chV bs (ch ++ [i])) → J n D ((t, g'.val (ch ++ [i]).length) :: E) σ (g'.seg 84 (chV bs (ch ++ [i])) :: F) K) :
    J n D E σ M (Op1 Tryz.prog ops Q ⟨some t, .call ⟨.builtin .append, #[x, y], #[89, 89]⟩, ty, pos, after, none⟩ K) := by
  subst hl
  refine o_append (m := 1) (news := [ptrI bs (some i)]) (cs := chV bs ch) (l := ch.length) (by_ := 8) g Tryz.runUnderlying89 Tryz.sizeOf84 Tryz.zeroValue84 (by kernel_rfl) Tryz.typeInfo84 rfl Tryz.runUnderlying89 hx hsv hy hok (reads_span (N := σ.R ++ M) (ps := ps) (T0 := T0) (qs := [P1 (ptrI bs (some i)) rfl]) (by simpa using hq)) rfl (by intro v hv; simp at hv; subst hv; rfl) (by omega) (by decide) ht (fun g' hg' => ?_)
  have he : chV bs ch ++ [ptrI bs (some i)] = chV bs (ch ++ [i]) := by simp [chV]
  have hl : ch.length + 1 = (ch ++ [i]).length := by simp
  rw [he, hl] at hg'
  rw [he, hl]
  exact h g' hg'
theorem l_chS {E : Env} {x : Operand} {N : List Seg} {o : Nat} {bs ch : List Nat} {T0 : TypeId} {bc : Nat} {sp : List Value} (k : Nat) (hx : val E x = some (.pointer (some ⟨bc, o, none⟩))) (ho : o = k) (hk : k < ch.length) [hm : InS bc (.cells (chV bs ch ++ sp).toArray T0 (0, 0)) N] :
    Yl Tryz.prog (Pts N) E (.load 84 x) (ptrI bs (some (ch.getD k 0))) :=
  lC (hm := hm) Tryz.isAgg84 k hx ho (ch_get hk)

/-- with another best chain -/
def Tr.turn (τ : Tr) (x : Nat × Nat × List Value) (c : List Nat) : Tr := { τ with bc := x.1, cap := x.2.1, sp := x.2.2, ch := c }
def trG (τ : Tr) (g : VG) (n : Nat) : List Part := [P1 (vI τ.r.every) rfl, P1 (bv .u32 τ.r.span) rfl, P1 (bv .u32 τ.r.limit) rfl, P1 (vI τ.r.confirm) rfl, P1 (bv .u32 τ.r.first.ver) rfl, hP τ.r.first.ahead, hP τ.r.first.root, P1 (bv .u32 τ.r.first.time) rfl, P1 (bv .u32 τ.r.first.bits) rfl, P1 (bv .u32 τ.r.first.nonce) rfl,
  P1 (.map (some τ.bm)) rfl, P1 (g.val n) (vg_one g n), P1 (vI τ.tips) rfl]
theorem turn_pos {L : List Nd} {ch : List Nat} (hL : LOk L) (hc : ChOk L ch) {j : Nat} (hj : j < L.length) (h : ch.length ≤ (nd L j).height ∨ ch.getD (nd L j).height 0 ≠ j) : 0 < (nd L j).height := by
  rcases Nat.eq_zero_or_pos (nd L j).height with h0 | h0
  · exfalso
    have hn := hc.ne
    have hj0 := height_zero hL hj h0
    rcases h with h | h
    · omega
    · rw [h0] at h
      have := height_zero hL (hc.lt 0 hn) (hc.ht 0 hn)
      omega
  · exact h0
theorem ch_split (bs ch : List Nat) (sp : List Value) (k : Nat) : chV bs ch ++ sp = chV bs (ch.take k) ++ (chV bs (ch.drop k) ++ sp) := by
  rw [← List.append_assoc, ← chV_app, List.take_append_drop]
theorem take_rev {l : List Nat} {k : Nat} (h : k < l.length) : (l.take (k + 1)).reverse = l.getD k 0 :: (l.take k).reverse := by
  rw [List.take_succ_eq_append_getElem h]
  simp [List.getD, List.getElem?_eq_getElem h]

theorem tree_turn (τ : Tr) (ok : τ.ok) (i : Nat) (hi : i < τ.L.length) (w : World) (hSt : St w (dom (treeM τ)) [] (treeM τ) w) :
    Calls Tryz.prog 44 [.pointer (some ⟨τ.bt, 0, none⟩), ptrI τ.bs (some i)].toArray w (Ret fun u w' => ∃ x : Nat × Nat × List Value, (chV τ.bs (lineI τ.L i) ++ x.2.2).length = x.2.1 ∧ u = .tuple #[] ∧ St w (dom (treeM τ)) [] (treeM (τ.turn x (lineI τ.L i))) w') := by
  have hbig := ok.l.big
  have hcl := ch_le ok.l ok.c
  have hn := ok.c.ne
  have hcap := ok.cap
  rw [List.length_append, chV_len] at hcap
  have hhi := height_le ok.l i hi
  refine begin_ Tryz.func44 rfl Tryz.ntmps44 rfl hSt ?_
  refine c_seq ?_
  refine c_region ?_
  refine seqq (o_y (y_assign rfl) rfl ?_)
  refine j_nilseg (T := 84) (cs := chV τ.bs []) ?_
  refine c_nil ?_
  refine c_seq ?_
  refine c_block ?_
  refine c_while (X := Nat × VG × List Nat) [0] [τ.bt, τ.bm, τ.bc] rfl (fun Ek y => (1, ptrI τ.bs (some y.1)) :: (4, y.2.1.val y.2.2.length) :: Ek) (fun Mk y => y.2.1.seg 84 (chV τ.bs y.2.2) :: ndSeg τ.bs τ.L :: Mk) (fun y => y.1 < τ.L.length ∧ y.2.1.ok 1 y.2.2.length (chV τ.bs y.2.2) ∧ lineI τ.L i = lineI τ.L y.1 ++ y.2.2.reverse ∧ y.2.2.length + (nd τ.L y.1).height = (nd τ.L i).height) (fun y => (nd τ.L y.1).height) (i, VG.nil, []) ⟨hi, ⟨rfl, rfl⟩, by simp, by simp⟩ ⟨rfl, rfl, rfl, trivial⟩ ?_
  intro y hy
  obtain ⟨hy1, hy2, hy3, hy4⟩ := hy
  have J1 := ins_ndS τ.bs τ.L y.1 hy1
  refine c_seq ?_
  refine c_seq ?_
  refine d_reg 24 mixed rfl ?_
  refine d_y (i := 0) (k' := 1) rfl (by kernel_rfl) (y_move rfl) rfl ?_
  refine d_y (i := 1) (k' := 3) rfl (by kernel_rfl) (y_nilCheck rfl) rfl ?_
  refine d_y (i := 2) (k' := 7) rfl (by kernel_rfl) (y_fieldAddr Tryz.runUnderlying86 rfl Tryz.sizeOf3 rfl rfl) rfl ?_
  refine d_s (i := 3) (k' := 15) rfl (by kernel_rfl) (by kernel_rfl) (l1 Tryz.isAgg3 rfl (by rfl)) hss rfl ?_
  refine d_y (i := 4) (k' := 31) rfl (by kernel_rfl) (y_move rfl) rfl ?_
  refine d_y (i := 5) (k' := 63) rfl (by kernel_rfl) (y_nilCheck rfl) rfl ?_
  refine d_y (i := 6) (k' := 127) rfl (by kernel_rfl) (y_fieldAddr Tryz.runUnderlying91 rfl Tryz.sizeOf89 rfl rfl) rfl ?_
  refine d_s (i := 7) (k' := 255) rfl (by kernel_rfl) (by kernel_rfl) (l1 Tryz.isAgg89 rfl (by rfl)) hss rfl ?_
  refine d_y (i := 8) (k' := 511) rfl (by kernel_rfl) (y_len (tys := #[]) Tryz.runUnderlying89 rfl) rfl ?_
  refine d_y (i := 9) (k' := 1023) rfl (by kernel_rfl) (y_geqZ rfl rfl) rfl ?_
  refine d_y (i := 10) (k' := 2047) rfl (by kernel_rfl) (y_move rfl) rfl ?_
  refine j_if 16 rfl (fun h16 => ?_) (fun h16 => ?_)
  ·
    obtain ⟨q, hq1, hq2, hq3⟩ := ahead_some ok.l hy1 (turn_pos ok.l ok.c hy1 (.inl (by omega)))
    refine d_n (i := 11) (k' := 4095) (c := true) rfl (by kernel_rfl) rfl rfl rfl rfl ?_
    refine d_n (i := 12) (k' := 8191) (c := true) rfl (by kernel_rfl) rfl rfl rfl rfl ?_
    refine d_n (i := 13) (k' := 16383) (c := true) rfl (by kernel_rfl) rfl rfl rfl rfl ?_
    refine d_n (i := 14) (k' := 32767) (c := true) rfl (by kernel_rfl) rfl rfl rfl rfl ?_
    refine d_n (i := 15) (k' := 65535) (c := true) rfl (by kernel_rfl) rfl rfl rfl rfl ?_
    refine d_n (i := 16) (k' := 131071) (c := true) rfl (by kernel_rfl) rfl rfl rfl rfl ?_
    refine d_n (i := 17) (k' := 262143) (c := true) rfl (by kernel_rfl) rfl rfl rfl rfl ?_
    refine d_n (i := 18) (k' := 524287) (c := true) rfl (by kernel_rfl) rfl rfl rfl rfl ?_
    refine d_n (i := 19) (k' := 1048575) (c := true) rfl (by kernel_rfl) rfl rfl rfl rfl ?_
    refine d_n (i := 20) (k' := 2097151) (c := true) rfl (by kernel_rfl) rfl rfl rfl rfl ?_
    refine d_n (i := 21) (k' := 4194303) (c := true) rfl (by kernel_rfl) rfl rfl rfl rfl ?_
    refine d_n (i := 22) (k' := 8388607) (c := true) rfl (by kernel_rfl) rfl rfl rfl rfl ?_
    refine d_y (i := 23) (k' := 16777215) rfl (by kernel_rfl) (y_pick_t rfl rfl) rfl ?_
    refine d_end (by kernel_rfl) ?_
    refine c_condT rfl ?_
    refine c_skip ?_
    refine c_seq ?_
    refine c_block ?_
    refine c_region ?_
    refine seqq (o_y (y_move rfl) rfl ?_)
    refine seqq (o_y (y_move rfl) rfl ?_)
    refine seqq (o_buildSlice (zs := [P1 (.pointer none)]) Tryz.runUnderlying89 Tryz.sizeOf84 Tryz.zeroValue84 (by kernel_rfl) rfl rfl (.one rfl rfl .nil) (by rfl) rfl (fun b36 => ?_))
    refine seqq (o_appP (i := y.1) y.2.1 rfl rfl rfl rfl hy2 (by rfl) (by omega) rfl (fun g2 hg2 => ?_))
    refine seqq (o_y (y_assign rfl) rfl ?_)
    refine c_nil ?_
    refine c_region ?_
    refine seqq (o_y (y_move rfl) rfl ?_)
    refine seqq (o_y (y_nilCheck rfl) rfl ?_)
    refine seqq (o_y (y_fieldAddr Tryz.runUnderlying86 rfl Tryz.sizeOf84 rfl rfl) rfl ?_)
    refine seqq (o_y (l1 Tryz.isAgg84 rfl (by rfl)) rfl ?_)
    refine j_re 33 rfl (show _ = ptrI τ.bs (some q) from by rw [hq1]) ?_
    refine seqq (o_y (y_assign rfl) rfl ?_)
    refine c_nil ?_
    exact c_next (q, g2, y.2.2 ++ [y.1]) ⟨by dsimp only; omega, hg2, by rw [hy3, line_step hq1 hq3]; simp, by simp; omega⟩ (by dsimp only; omega) ⟨rfl, rfl, rfl, trivial⟩
  ·
    have J2 := ins_ndS τ.bs τ.L (τ.ch.getD (nd τ.L y.1).height 0) (ok.c.lt _ (by omega))
    refine d_gy (i := 11) (k' := 4095) rfl (by kernel_rfl) rfl rfl (y_move rfl) rfl ?_
    refine d_gy (i := 12) (k' := 8191) rfl (by kernel_rfl) rfl rfl (y_nilCheck rfl) rfl ?_
    refine d_gy (i := 13) (k' := 16383) rfl (by kernel_rfl) rfl rfl (y_fieldAddr Tryz.runUnderlying91 rfl Tryz.sizeOf89 rfl rfl) rfl ?_
    refine d_gs (i := 14) (k' := 32767) rfl (by kernel_rfl) rfl rfl (by kernel_rfl) (l1 Tryz.isAgg89 rfl (by rfl)) hss rfl ?_
    refine d_gy (i := 15) (k' := 65535) rfl (by kernel_rfl) rfl rfl (y_move rfl) rfl ?_
    refine d_gy (i := 16) (k' := 131071) rfl (by kernel_rfl) rfl rfl (y_nilCheck rfl) rfl ?_
    refine d_gy (i := 17) (k' := 262143) rfl (by kernel_rfl) rfl rfl (y_fieldAddr Tryz.runUnderlying86 rfl Tryz.sizeOf3 rfl rfl) rfl ?_
    refine d_gs (i := 18) (k' := 524287) rfl (by kernel_rfl) rfl rfl (by kernel_rfl) (l1 Tryz.isAgg3 rfl (by rfl)) hss rfl ?_
    refine d_gy (i := 19) (k' := 1048575) rfl (by kernel_rfl) rfl rfl (y_indexAddrS Tryz.runUnderlying89 Tryz.sizeOf84 rfl rfl (by omega)) rfl ?_
    refine d_gs (i := 20) (k' := 2097151) rfl (by kernel_rfl) rfl rfl (by kernel_rfl) (l_ch (nd τ.L y.1).height rfl (by omega) (by omega)) hss rfl ?_
    refine d_gy (i := 21) (k' := 4194303) rfl (by kernel_rfl) rfl rfl (y_move rfl) rfl ?_
    refine d_gs (i := 22) (k' := 8388607) rfl (by kernel_rfl) rfl rfl (by kernel_rfl) (y_neqP (b := τ.bs.getD (τ.ch.getD (nd τ.L y.1).height 0) 0) (c := τ.bs.getD y.1 0) Tryz.underlying84 (j := Tryz.t86) (by kernel_rfl) (by decide) rfl rfl) hss rfl ?_
    refine j_re 28 rfl (show _ = Value.bool (!decide (τ.ch.getD (nd τ.L y.1).height 0 = y.1)) from by rw [decide_eq_decide.2 (bs_ne ok (ok.c.lt _ (by omega)) hy1)]) ?_
    refine d_y (i := 23) (k' := 16777215) rfl (by kernel_rfl) (y_pick_f rfl rfl) rfl ?_
    refine d_end (by kernel_rfl) ?_
    refine c_ifn rfl (fun h29 => ?_) (fun h29 => ?_)
    ·
      obtain ⟨q, hq1, hq2, hq3⟩ := ahead_some ok.l hy1 (turn_pos ok.l ok.c hy1 (.inr h29))
      refine c_skip ?_
      refine c_seq ?_
      refine c_block ?_
      refine c_region ?_
      refine seqq (o_y (y_move rfl) rfl ?_)
      refine seqq (o_y (y_move rfl) rfl ?_)
      refine seqq (o_buildSlice (zs := [P1 (.pointer none)]) Tryz.runUnderlying89 Tryz.sizeOf84 Tryz.zeroValue84 (by kernel_rfl) rfl rfl (.one rfl rfl .nil) (by rfl) rfl (fun b36 => ?_))
      refine seqq (o_appP (i := y.1) y.2.1 rfl rfl rfl rfl hy2 (by rfl) (by omega) rfl (fun g2 hg2 => ?_))
      refine seqq (o_y (y_assign rfl) rfl ?_)
      refine c_nil ?_
      refine c_region ?_
      refine seqq (o_y (y_move rfl) rfl ?_)
      refine seqq (o_y (y_nilCheck rfl) rfl ?_)
      refine seqq (o_y (y_fieldAddr Tryz.runUnderlying86 rfl Tryz.sizeOf84 rfl rfl) rfl ?_)
      refine seqq (o_y (l1 Tryz.isAgg84 rfl (by rfl)) rfl ?_)
      refine j_re 33 rfl (show _ = ptrI τ.bs (some q) from by rw [hq1]) ?_
      refine seqq (o_y (y_assign rfl) rfl ?_)
      refine c_nil ?_
      exact c_next (q, g2, y.2.2 ++ [y.1]) ⟨by dsimp only; omega, hg2, by rw [hy3, line_step hq1 hq3]; simp, by simp; omega⟩ (by dsimp only; omega) ⟨rfl, rfl, rfl, trivial⟩
    ·
      have hx := h29
      refine c_exit ?_
      refine c_seq ?_
      refine d_reg 11 mixed rfl ?_
      refine d_y (i := 0) (k' := 1) rfl (by kernel_rfl) (y_move rfl) rfl ?_
      refine d_y (i := 1) (k' := 3) rfl (by kernel_rfl) (y_move rfl) rfl ?_
      refine d_y (i := 2) (k' := 7) rfl (by kernel_rfl) (y_nilCheck rfl) rfl ?_
      refine d_y (i := 3) (k' := 15) rfl (by kernel_rfl) (y_fieldAddr Tryz.runUnderlying91 rfl Tryz.sizeOf89 rfl rfl) rfl ?_
      refine d_s (i := 4) (k' := 31) rfl (by kernel_rfl) (by kernel_rfl) (l1 Tryz.isAgg89 rfl (by rfl)) hss rfl ?_
      refine d_y (i := 5) (k' := 63) rfl (by kernel_rfl) (y_move rfl) rfl ?_
      refine d_y (i := 6) (k' := 127) rfl (by kernel_rfl) (y_nilCheck rfl) rfl ?_
      refine d_y (i := 7) (k' := 255) rfl (by kernel_rfl) (y_fieldAddr Tryz.runUnderlying86 rfl Tryz.sizeOf3 rfl rfl) rfl ?_
      refine d_s (i := 8) (k' := 511) rfl (by kernel_rfl) (by kernel_rfl) (l1 Tryz.isAgg3 rfl (by rfl)) hss rfl ?_
      refine d_y (i := 9) (k' := 1023) rfl (by kernel_rfl) (y_addI rfl rfl (by omega)) rfl ?_
      refine d_y (i := 10) (k' := 2047) rfl (by kernel_rfl) (y_sliceHi Tryz.runUnderlying89 Tryz.sizeOf84 rfl rfl rfl (by omega)) rfl ?_
      refine j_re 48 rfl (show _ = (VG.blk τ.bc τ.cap (chV τ.bs (τ.ch.drop ((nd τ.L y.1).height + 1)) ++ τ.sp)).val (τ.ch.take ((nd τ.L y.1).height + 1)).length from by simp only [VG.val, List.length_take]; congr 1; omega) ?_
      refine d_y (i := 11) (k' := 4095) rfl (by kernel_rfl) (y_nilCheck rfl) rfl ?_
      refine d_y (i := 12) (k' := 8191) rfl (by kernel_rfl) (y_fieldAddr Tryz.runUnderlying91 rfl Tryz.sizeOf89 rfl rfl) rfl ?_
      refine d_e (i := 13) (k' := 16383) rfl (by kernel_rfl) (st1 (h1 := rfl) Tryz.sizeOf89 rfl rfl (by rfl) (by rfl) ( d_past rfl ?_))
      refine d_end (by kernel_rfl) ?_
      refine c_seq ?_
      refine c_region ?_
      refine seqq (o_y (y_move rfl) rfl ?_)
      refine j_obj τ.bt (ps' := trG τ (VG.blk τ.bc τ.cap (chV τ.bs (τ.ch.drop ((nd τ.L y.1).height + 1)) ++ τ.sp)) (τ.ch.take ((nd τ.L y.1).height + 1)).length) rfl (by rfl) ?_
      refine j_seg (T := [(τ.bc, chOb τ.bs τ.ch τ.sp)]) (T' := (VG.blk τ.bc τ.cap (chV τ.bs (τ.ch.drop ((nd τ.L y.1).height + 1)) ++ τ.sp)).seg 84 (chV τ.bs (τ.ch.take ((nd τ.L y.1).height + 1)))) (by simp only [VG.seg, chOb]; rw [ch_split]) ?_
      refine seqq (o_y (y_lenG Tryz.runUnderlying89 rfl hy2) rfl ?_)
      refine seqq (o_y (y_subI rfl rfl (by omega)) rfl ?_)
      refine seqq (o_y (y_assign rfl) rfl ?_)
      refine c_nil ?_
      refine c_block ?_
      refine c_while (X := Nat × VG × List Nat × VG) [0] [τ.bm] rfl (fun Ek z => (5, vI ((z.1 : Int) - 1)) :: (4, z.2.2.2.val y.2.2.length) :: Ek) (fun Mk z => [(τ.bt, obj 91 (trG τ z.2.1 z.2.2.1.length))] :: z.2.1.seg 84 (chV τ.bs z.2.2.1) :: z.2.2.2.seg 84 (chV τ.bs y.2.2) :: ndSeg τ.bs τ.L :: Mk) (fun z => z.1 ≤ y.2.2.length ∧ z.2.1.ok 1 z.2.2.1.length (chV τ.bs z.2.2.1) ∧ z.2.2.2.ok 1 y.2.2.length (chV τ.bs y.2.2) ∧ z.2.2.1 ++ (y.2.2.take z.1).reverse = lineI τ.L i ∧ z.2.2.1.length ≤ 4097) (fun z => z.1) (y.2.2.length, (VG.blk τ.bc τ.cap (chV τ.bs (τ.ch.drop ((nd τ.L y.1).height + 1)) ++ τ.sp)), (τ.ch.take ((nd τ.L y.1).height + 1)), y.2.1) ⟨Nat.le_refl _, ⟨by rw [chV_len, Nat.mul_one], by rw [← ch_split, List.length_append, chV_len]; omega, by rw [List.length_take]; omega⟩, hy2, by rw [hy3, List.take_length, line_take ok.c _ (by omega), hx], by dsimp only; rw [List.length_take]; omega⟩ ⟨rfl, rfl, rfl, trivial⟩ ?_
      intro z hz
      obtain ⟨hz1, hz2, hz3, hz4, hz5⟩ := hz
      refine c_seq ?_
      refine c_seq ?_
      refine c_region ?_
      refine seqq (o_y (y_move rfl) rfl ?_)
      refine seqq (o_y (y_geqZ rfl rfl) rfl ?_)
      refine c_nil ?_
      refine c_if rfl (fun h55 => ?_) (fun h55 => ?_)
      ·
        obtain ⟨k, hk⟩ : ∃ k, z.1 = k + 1 := ⟨z.1 - 1, by omega⟩
        refine j_re 4 rfl (show _ = z.2.2.2.val (chV τ.bs y.2.2).length from by rw [chV_len]) ?_
        refine j_vgC (T := 84) (m := y.2.2.length) 4 z.2.2.2 rfl (by rw [chV_len]; exact hz3) (chV_len _ _) (by omega) (fun bb cap4 sp4 hc4 hs4 => ?_)
        refine j_re 5 rfl (show _ = vI (k : Int) from by congr 1; omega) ?_
        refine c_skip ?_
        refine c_seq ?_
        refine c_block ?_
        refine d_regK [τ.bt, bb] 13 mixed rfl ?_
        refine d_y (i := 0) (k' := 1) rfl (by kernel_rfl) (y_move rfl) rfl ?_
        refine d_y (i := 1) (k' := 3) rfl (by kernel_rfl) (y_move rfl) rfl ?_
        refine d_y (i := 2) (k' := 7) rfl (by kernel_rfl) (y_nilCheck rfl) rfl ?_
        refine d_y (i := 3) (k' := 15) rfl (by kernel_rfl) (y_fieldAddr Tryz.runUnderlying91 rfl Tryz.sizeOf89 rfl rfl) rfl ?_
        refine d_s (i := 4) (k' := 31) rfl (by kernel_rfl) (by kernel_rfl) (l1 Tryz.isAgg89 rfl (by rfl)) hss rfl ?_
        refine d_y (i := 5) (k' := 63) rfl (by kernel_rfl) (y_move rfl) rfl ?_
        refine d_y (i := 6) (k' := 127) rfl (by kernel_rfl) (y_move rfl) rfl ?_
        refine d_y (i := 7) (k' := 255) rfl (by kernel_rfl) (y_indexAddrS Tryz.runUnderlying89 Tryz.sizeOf84 rfl rfl (by omega)) rfl ?_
        refine d_s (i := 8) (k' := 511) rfl (by kernel_rfl) (by kernel_rfl) (l_chS k rfl (by omega) (by omega)) hss rfl ?_
        refine d_e (i := 9) (k' := 1023) rfl (by kernel_rfl) (o_buildSlice (zs := [P1 (.pointer none)]) Tryz.runUnderlying89 Tryz.sizeOf84 Tryz.zeroValue84 (by kernel_rfl) rfl rfl (.one rfl rfl .nil) (by rfl) rfl (fun b67 => d_keep hss ?_))
        refine d_e (i := 10) (k' := 2047) rfl (by kernel_rfl) (o_appP (i := y.2.2.getD k 0) (ch := z.2.2.1) z.2.1 rfl rfl rfl rfl hz2 (by rfl) (by omega) rfl (fun g3 hg3 => d_keep hss ?_))
        refine d_y (i := 11) (k' := 4095) rfl (by kernel_rfl) (y_nilCheck rfl) rfl ?_
        refine d_y (i := 12) (k' := 8191) rfl (by kernel_rfl) (y_fieldAddr Tryz.runUnderlying91 rfl Tryz.sizeOf89 rfl rfl) rfl ?_
        refine d_e (i := 13) (k' := 16383) rfl (by kernel_rfl) (st1 (h1 := vg_one _ _) Tryz.sizeOf89 rfl rfl (by rfl) (by rfl) ( d_past rfl ?_))
        refine d_end (by kernel_rfl) ?_
        refine c_region ?_
        refine seqq (o_y (y_move rfl) rfl ?_)
        refine seqq (o_y (y_subI rfl rfl (by omega)) rfl ?_)
        refine seqq (o_y (y_assign rfl) rfl ?_)
        refine c_nil ?_
        refine j_re 4 rfl (show _ = (VG.blk bb cap4 sp4).val y.2.2.length from rfl) ?_
        refine j_seg (T := [(bb, .cells (chV τ.bs y.2.2 ++ sp4).toArray 84 (0, 0))]) (T' := (VG.blk bb cap4 sp4).seg 84 (chV τ.bs y.2.2)) rfl ?_
        refine j_obj τ.bt (ps' := trG τ g3 (z.2.2.1 ++ [y.2.2.getD k 0]).length) rfl (by rfl) ?_
        exact c_next (k, g3, z.2.2.1 ++ [y.2.2.getD k 0], VG.blk bb cap4 sp4) ⟨by dsimp only; omega, hg3, ⟨by simp [chV_len], by simpa using hs4, hc4⟩, by rw [← hz4, hk, take_rev (by omega)]; simp, by have := congrArg List.length hz4; have := (line_ok ok.l i hi).2.1; simp [List.length_take] at *; omega⟩ (by dsimp only; omega) ⟨rfl, rfl, rfl, trivial⟩
      ·
        refine c_exit ?_
        refine c_end ?_
        refine c_done0 Tryz.results44  (fun w hS => ?_)
        have hk0 : z.1 = 0 := by omega
        rw [hk0, List.take_zero, List.reverse_nil, List.append_nil] at hz4
        have hl := (line_ok ok.l i hi).1.ne
        revert hz2 hS
        rw [hz4]
        cases z.2.1 with
        | nil => exact fun hz2 => absurd hz2.1 (by omega)
        | blk b cap sp =>
          intro hz2 hS
          have hS' : St _ (dom (treeM τ)) [] ([(τ.bt, obj 91 (trP (τ.turn (b, cap, sp) (lineI τ.L i))))] :: [(b, chOb τ.bs (lineI τ.L i) sp)] :: z.2.2.2.seg 84 (chV τ.bs y.2.2) :: ndSeg τ.bs τ.L :: [(τ.bm, mObT τ.bs τ.L)] :: []) _ := hS
          exact ⟨(b, cap, sp), by have := hz2.2.1; rw [Nat.mul_one] at this; exact this, rfl, hS'.fin (N := [[(τ.bt, obj 91 (trP (τ.turn (b, cap, sp) (lineI τ.L i))))], [(τ.bm, mObT τ.bs τ.L)], [(b, chOb τ.bs (lineI τ.L i) sp)], ndSeg τ.bs τ.L])⟩
