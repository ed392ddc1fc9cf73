/- Walks and laws of this claim, part Lw2. -/
import Derived.Test.YtjoniieoaokimaaGreatVLw
import Derived.Test.YtjoniieoaokimaaGreatVIter2
set_option linter.unusedVariables false
set_option linter.unusedSimpArgs false
set_option linter.unusedSectionVars false
set_option autoImplicit true
set_option relaxedAutoImplicit true
set_option maxRecDepth 100000
set_option maxHeartbeats 1000000
namespace Go.Proofs
open V
/-! ### rows of hashes -/
def HsC (l : List H32) : List Value := l.flatMap fun (h : H32) => h.1.map (bv .u8)
theorem hsC_len (l : List H32) : (HsC l).length = l.length * 32 := by
  induction l with
  | nil => rfl
  | cons h l ih => simp only [HsC, List.flatMap_cons, List.length_append, List.length_map, List.length_cons] at ih ⊢; rw [ih, h.2]; omega
theorem hsC_app (l l' : List H32) : HsC (l ++ l') = HsC l ++ HsC l' := by simp [HsC]
theorem hsC_one (l : List H32) : ∀ v ∈ HsC l, one1 v = true := fun v hv => by
  simp only [HsC, List.mem_flatMap, List.mem_map] at hv
  obtain ⟨h, _, x, _, rfl⟩ := hv; rfl
theorem hsC_get : ∀ (l : List H32) (i j : Nat) (v : Value), i < l.length → ((l.getD i h0).1.map (bv .u8))[j]? = some v → (HsC l)[i * 32 + j]? = some v
  | [], _, _, _, h, _ => by simp at h
  | h :: l, 0, j, v, _, hj => by
    simp only [List.getD_cons_zero] at hj
    have hlt : j < (h.1.map (bv .u8)).length := by
      rcases Nat.lt_or_ge j (h.1.map (bv .u8)).length with h' | h'
      · exact h'
      · rw [List.getElem?_eq_none h'] at hj; cases hj
    simp only [HsC, List.flatMap_cons, Nat.zero_mul, Nat.zero_add]
    rw [List.getElem?_append_left hlt]; exact hj
  | h :: l, i + 1, j, v, hi, hj => by
    simp only [List.getD_cons_succ] at hj
    have := hsC_get l i j v (by simpa using hi) hj
    simp only [HsC, List.flatMap_cons] at this ⊢
    rw [List.getElem?_append_right (by simp [h.2]; omega)]
    simp only [List.length_map, h.2]
    rw [show (i + 1) * 32 + j - 32 = i * 32 + j from by omega]
    exact this
section
variable {P : Program} {ops : Array Oper} {Q : Exit → Act → World → Prop} {K : Act → World → Prop} {n : Nat} {D : List Deferred} {E : Env} {σ : Bs} {M M' N F : List Seg} {x y : Operand} {ty : TypeId} {pos : String} {after : Array Edge}
/-- some cells that are told -/
theorem y_loadNC {T b off m T0 : Nat} {l cs : List Value} {fr : Nat × Nat} (hA : ∀ w, (isAgg T).run P w = .ok true w) (hz : ∀ w, (sizeOf T).run P w = .ok m w) (o' : Nat) (hx : val E x = some (.pointer (some ⟨b, off, none⟩))) [hm : InS b (.cells l.toArray T0 fr) N] (ho : off = o')
    (hl : cs.length = m) (hc : ∀ j v, cs[j]? = some v → l[o' + j]? = some v) : Yl P (Pts N) E (.load T x) (.agg cs.toArray) := by
  intro _ _ _ _ _ ρ hρ w hS
  subst ho
  have h1 := V.run_loadCells (P := P) (w := w) (b := b) (off := off) (cs := cs) (hS _ hm.mem) hc
  rw [hl] at h1
  simp [execOp, hρ _ _ hx, Instr.loadAt, Instr.sureAddr, loadVar, hA, hz, h1, Sem.run, pure]
end
/-- a hash of a row -/
theorem l_hs {E : Env} {x : Operand} {N : List Seg} {b off T0 : Nat} {l : List H32} {sp : List Value} {fr : Nat × Nat} (i : Nat) (hx : val E x = some (.pointer (some ⟨b, off, none⟩))) [hm : InS b (.cells (HsC l ++ sp).toArray T0 fr) N] (ho : off = i * 32) (hi : i < l.length) :
    Yl Tryz.prog (Pts N) E (.load 26 x) (vH (l.getD i h0)) :=
  y_toV (v := .agg ((l.getD i h0).1.map (bv .u8)).toArray) (by simp [vH, vagg, flat, hP, leaf]) (y_loadNC Tryz.isAgg26 Tryz.sizeOf26 (i * 32) hx ho (by rw [List.length_map]; exact (l.getD i h0).2) (fun j v hj => by
    have h1 := hsC_get l i j v hi hj
    have hlt : i * 32 + j < (HsC l).length := by
      rcases Nat.lt_or_ge (i * 32 + j) (HsC l).length with h' | h'
      · exact h'
      · rw [List.getElem?_eq_none h'] at h1; cases h1
    rw [List.getElem?_append_left hlt]; exact h1))
/-- a hash more -/
theorem o_appH {Q : Exit → Act → World → Prop} {K : Act → World → Prop} {ops : Array Oper} {n : Nat} {D : List Deferred} {E : Env} {σ : Bs} {M : List Seg} {x y : Operand} {ty : TypeId} {pos : String} {after : Array Edge} {t : Nat} {sv : Value} {l : List H32} {h : H32} {b off cap T0 m : Nat} {ps : List Part} (g : VG) {F : List Seg}
    (hx : val E x = some sv) (hl : l.length = m) (hsv : sv = g.val m) (hy : val E y = some (.slice (some ⟨b, off, none⟩) 1 cap)) (hok : g.ok 32 l.length (HsC l))
    [hm : InS b (obj T0 ps) (σ.R ++ M)] (hq : spanAt ps off 32 = some [hP h]) [hF : TakeC (g.seg 26 (HsC l)) M F]
    (hbig : l.length ≤ 1099511627) (ht : Nat.blt t n = true)
    (hh : ∀ g' : VG, g'.ok 32 (l ++ [h]).length (HsC (l ++ [h])) → J n D ((t, g'.val (l ++ [h]).length) :: E) σ (g'.seg 26 (HsC (l ++ [h])) :: F) K) :
    J n D E σ M (Op1 Tryz.prog ops Q ⟨some t, .call ⟨.builtin .append, #[x, y], #[71, 71]⟩, ty, pos, after, none⟩ K) := by
  subst hl
  refine o_append (m := 1) (news := flat [hP h]) (cs := HsC l) (l := l.length) (by_ := 32) g Tryz.runUnderlying71 Tryz.sizeOf26 Tryz.zeroValue26 (by kernel_rfl) Tryz.typeInfo26 rfl Tryz.runUnderlying71 hx hsv hy hok (reads_span (N := σ.R ++ M) (ps := ps) (T0 := T0) (qs := [hP h]) (by simpa using hq)) (by simp [flat, hP, leaf, h.2]) (flat_one _) (by omega) (by decide) ht (fun g' hg' => ?_)
  have he : HsC l ++ flat [hP h] = HsC (l ++ [h]) := by simp [HsC, flat, hP, leaf]
  have hl : l.length + 1 = (l ++ [h]).length := by simp
  rw [he, hl] at hg'
  rw [he, hl]
  exact hh g' hg'
def _root_.Go.Value.toNatI : Value → Nat
  | .int _ z => z.toNat
  | _ => 0
theorem sub_R {R : List Seg} : ∀ q ∈ R.flatten, q ∈ R.flatten := fun _ h => h
def lineH (s : TS) : List H32 := (List.range s.ch.length).map fun (k : Nat) => hashH (nd s.L (s.ch.getD k 0)).h
theorem lineH_len (s : TS) : (lineH s).length = s.ch.length := by simp [lineH]
theorem lineH_get (s : TS) (k : Nat) (h : k < s.ch.length) : (lineH s).getD k h0 = hashH (nd s.L (s.ch.getD k 0)).h := by
  simp [lineH, List.getD, List.getElem?_map, List.getElem?_range h]
theorem chXs_get {τ : Tr} {k i : Nat} {vs : List Value} (h1 : i = k) (h : (chXs τ.L τ.ch)[k]? = some vs) : i < (lineH τ.s).length ∧ vs = [vI (i : Int), vH ((lineH τ.s).getD i h0)] := by
  subst h1
  have hlt : i < τ.ch.length := by
    rcases Nat.lt_or_ge i τ.ch.length with h' | h'
    · exact h'
    · rw [List.getElem?_eq_none (by simpa [chXs] using h')] at h; cases h
  refine ⟨by rw [lineH_len]; exact hlt, ?_⟩
  rw [lineH_get τ.s i hlt]
  simp only [chXs] at h
  rw [List.getElem?_map, List.getElem?_range hlt] at h
  simp only [Option.map_some, Option.some.injEq] at h
  exact h.symm
theorem take_moreH (l : List H32) (k : Nat) (h : k < l.length) : l.take k ++ [l.getD k h0] = l.take (k + 1) := by
  rw [List.take_succ_eq_append_getElem h]; simp [List.getD, List.getElem?_eq_getElem h]

theorem law_line (τ : Tr) (ok : τ.ok) (w : World) (hw : Pts (treeM τ) w) : Quiet Tryz.prog 25 [.pointer (some ⟨τ.bt, 0, none⟩)] (fun u L => ∃ g : VG, g.ok 32 (lineH τ.s).length (HsC (lineH τ.s)) ∧ u = g.val (lineH τ.s).length ∧ L = [g.seg 26 (HsC (lineH τ.s))]) w := by
  have hbig := ok.l.big
  have hcl := ch_le ok.l ok.c
  have hll : (lineH τ.s).length = τ.ch.length := lineH_len τ.s
  refine beginMR Tryz.func25 rfl Tryz.ntmps25 rfl hw ?_
  refine c_seq ?_
  refine c_region ?_
  refine seqq (o_y (y_assign rfl) rfl ?_)
  refine c_nil ?_
  refine c_seq ?_
  refine c_region ?_
  refine seqq (o_alloc (ps := [P1 (.slice none 0 0)]) Tryz.zeroValue71 (by kernel_rfl) rfl (fun b3 => ?_))
  refine j_obj b3 (ps' := [P1 (VG.nil.val ((lineH τ.s).take 0).length) (vg_one _ _)]) rfl (by rfl) ?_
  refine j_nilseg (T := 26) (cs := HsC ((lineH τ.s).take 0)) ?_
  refine c_nil ?_
  refine c_seq ?_
  refine c_seq ?_
  refine c_region ?_
  refine seqq (o_y (y_move rfl) rfl ?_)
  refine seqq (o_new1 (X := Nat) (v := fun b1 => .func (.func 86) #[] [.pointer (some ⟨b1, 0, none⟩)].toArray) (A := fun b1 => [(b1, obj 32 [P1 (.pointer (some ⟨τ.bt, 0, none⟩)) rfl])]) (p := fun _ => True) Tryz.call55 rfl rfl (fun w _ => tree_Chain τ w) (fun bx _ => ?_))
  refine c_nil ?_
  refine c_block ?_
  refine c_rangeAK (X := Nat × VG) (Z := Empty) (Y := Nat) [3] [bx] rfl (fun Mk y => [(b3, obj 71 [P1 (y.2.val ((lineH τ.s).take y.1).length) (vg_one _ _)])] :: y.2.seg 26 (HsC ((lineH τ.s).take y.1)) :: Mk) (fun k y => y.1 = k ∧ k ≤ (lineH τ.s).length ∧ y.2.ok 32 ((lineH τ.s).take y.1).length (HsC ((lineH τ.s).take y.1))) (fun _ z => nomatch z) (fun _ z => nomatch z) (fun Ek vs q => (5, .pointer (some ⟨q, 0, none⟩)) :: Ek) (fun vs q => [[(q, obj 26 [hP ((lineH τ.s).getD (vs.getD 0 undef).toNatI h0)])]]) (0, VG.nil) ⟨rfl, Nat.zero_le _, ⟨rfl, rfl⟩⟩ rfl Tryz.call86 (iter_Chain τ ok bx) (fun k y w hp hS => ptsMR (N := [[(bx, obj 32 [P1 (.pointer (some ⟨τ.bt, 0, none⟩)) rfl])]]) (N' := treeM τ) sub_R hS) (by simp [chXs]) rfl ?_ ?_ ?_ (fun _ _ z => nomatch z)
  ·
    intro l k y vs w hp hvs
    obtain ⟨hk1, hk2, hk3⟩ := hp
    obtain ⟨hk4, rfl⟩ := chXs_get hk1 hvs
    refine i_region ?_
    refine i_op rfl (o_alloc (ps := [hP h0]) Tryz.zeroValue26 (by kernel_rfl) rfl (fun b5 => ?_))
    refine i_op rfl (stN Tryz.sizeOf26 rfl rfl (by rfl) rfl (by rfl) ?_)
    refine i_nil ?_
    refine j_seg (T := [(b5, obj 26 [hP ((lineH τ.s).getD y.1 h0)])]) (T' := [(b5, obj 26 [hP ((lineH τ.s).getD ([vI (y.1 : Int), vH ((lineH τ.s).getD y.1 h0)].getD 0 undef).toNatI h0)])]) rfl ?_
    exact k_assignedA b5 ⟨rfl, rfl, trivial⟩
  ·
    intro l k y vs q w hp hvs
    obtain ⟨hk1, hk2, hk3⟩ := hp
    obtain ⟨hk4, rfl⟩ := chXs_get hk1 hvs
    simp only [List.cons_append, List.nil_append]
    refine j_seg (T := [(q, obj 26 [hP ((lineH τ.s).getD ([vI (y.1 : Int), vH ((lineH τ.s).getD y.1 h0)].getD 0 undef).toNatI h0)])]) (T' := [(q, obj 26 [hP ((lineH τ.s).getD y.1 h0)])]) rfl ?_
    refine i_block ?_
    refine i_region ?_
    refine i_op rfl (o_y (l1 Tryz.isAgg71 rfl (by rfl)) rfl ?_)
    refine i_op rfl (o_y (lN Tryz.isAgg26 Tryz.sizeOf26 rfl (by rfl)) rfl ?_)
    refine i_op rfl (o_buildSlice (zs := [zleaf .u8 8 32]) Tryz.runUnderlying71 Tryz.sizeOf26 Tryz.zeroValue26 (by kernel_rfl) rfl rfl (.agg rfl .nil) (by rfl) rfl (fun b12 => ?_))
    refine i_op rfl (o_appH (h := (lineH τ.s).getD y.1 h0) y.2 rfl rfl rfl rfl hk3 (by rfl) (by rw [List.length_take]; omega) rfl (fun g2 hg2 => ?_))
    rw [take_moreH _ y.1 hk4] at hg2
    rw [take_moreH _ y.1 hk4]
    refine i_op rfl (st1 (h1 := vg_one _ _) Tryz.sizeOf71 rfl rfl (by rfl) (by rfl) ?_)
    refine i_nil ?_
    exact k_normal (y.1 + 1, g2) ⟨by omega, by omega, hg2⟩
  ·
    intro bD1 y hp
    obtain ⟨k, g⟩ := y
    have hlen : (chXs τ.L τ.ch).length = (lineH τ.s).length := by rw [hll]; simp [chXs]
    rw [hlen] at hp
    obtain ⟨rfl, _, hg⟩ := hp
    dsimp only at hg ⊢
    refine c_seq ?_
    refine c_region ?_
    refine seqq (o_y (l1 Tryz.isAgg71 rfl (by rfl)) rfl ?_)
    refine seqq (o_y (y_assign rfl) rfl ?_)
    refine c_nil ?_
    refine c_ret ?_
    refine m_ret ?_
    refine c_mark (by rfl) ?_
    refine lm_of ?_
    refine c_done1 Tryz.results25 (.tmp rfl) (fun w hS => ?_)
    rw [List.take_length] at hg hS
    rw [List.take_length]
    exact ⟨_, ⟨g, hg, rfl, rfl⟩, hS.fin (N := [g.seg 26 (HsC (lineH τ.s))])⟩

theorem in_upto {l : List H32} {h : H32} (hl : ∀ j, j < l.length → ¬ l.getD j h0 = h) : ¬ h ∈ l := fun hm => by
  obtain ⟨j, hj, he⟩ := List.getElem_of_mem hm
  exact hl j hj (by simp [List.getD, List.getElem?_eq_getElem hj, he])
theorem in_at {l : List H32} {h : H32} {j : Nat} (hj : j < l.length) (he : l.getD j h0 = h) : h ∈ l := by
  rw [← he]; simp [List.getD, List.getElem?_eq_getElem hj]

theorem law_in_blk (b cap : Nat) (l : List H32) (sp : List Value) (h : H32) (hb : l.length ≤ 1073741824) : PureS Tryz.prog (Pts [[(b, .cells (HsC l ++ sp).toArray 26 (0, 0))]]) 28 [(.slice (some ⟨b, 0, none⟩) l.length cap), vH h] (.bool (decide (h ∈ l))) := by
  intro w hw
  refine beginR Tryz.func28 rfl Tryz.ntmps28 rfl hw ?_
  refine c_seq ?_
  refine c_region ?_
  refine seqq (o_box (T := 26) rfl (IsP.agg).cells rfl (fun b3 => ?_))
  refine seqq (o_y (y_assign rfl) rfl ?_)
  refine c_nil ?_
  refine c_seq ?_
  refine c_seq ?_
  refine c_region ?_
  refine seqq (o_y (y_move rfl) rfl ?_)
  refine seqq (o_y (y_len (tys := #[]) Tryz.runUnderlying71 rfl) rfl ?_)
  refine seqq (o_y (y_move rfl) rfl ?_)
  refine c_nil ?_
  refine c_block ?_
  refine c_while (X := Nat) [3, 7, 8] [b3] rfl (fun Ek x => (9, vI (x : Int)) :: Ek) (fun Mk x => Mk) (fun x => x ≤ l.length ∧ ∀ j, j < x → ¬ l.getD j h0 = h) (fun x => l.length - x) 0 ⟨Nat.zero_le _, fun j hj => absurd hj (Nat.not_lt_zero _)⟩ ⟨rfl, rfl, rfl, rfl, trivial⟩ ?_
  intro x hx
  obtain ⟨hx1, hx2⟩ := hx
  refine c_seq ?_
  refine c_region ?_
  refine seqq (o_y (y_lssZ rfl rfl) rfl ?_)
  refine c_nil ?_
  refine c_seq ?_
  refine c_if rfl (fun h10 => ?_) (fun h10 => ?_)
  ·
    refine c_skip ?_
    refine c_seq ?_
    refine c_block ?_
    refine c_seq ?_
    refine c_region ?_
    refine seqq (o_y (y_indexAddrS Tryz.runUnderlying71 Tryz.sizeOf26 rfl rfl (by omega)) rfl ?_)
    refine seqq (o_y (l_hs x rfl (by omega) (by omega)) rfl ?_)
    refine seqq (o_alloc (ps := [hP h0]) Tryz.zeroValue26 (by kernel_rfl) rfl (fun b6 => ?_))
    refine seqq (stN Tryz.sizeOf26 rfl rfl (by rfl) rfl (by rfl) ?_)
    refine c_nil ?_
    refine c_seq ?_
    refine c_region ?_
    refine seqq (o_y (lN Tryz.isAgg26 Tryz.sizeOf26 rfl (by rfl)) rfl ?_)
    refine seqq (o_y (lN Tryz.isAgg26 Tryz.sizeOf26 rfl (by rfl)) rfl ?_)
    refine seqq (o_y (y_eqH rfl rfl) rfl ?_)
    refine c_nil ?_
    refine c_if rfl (fun h15 => ?_) (fun h15 => ?_)
    ·
      refine c_seq ?_
      refine c_region ?_
      refine seqq (o_y (y_assign rfl) rfl ?_)
      refine c_nil ?_
      refine c_ret ?_
      refine c_done1 Tryz.results28 (.tmp rfl) (fun w hS => ?_)
      exact ⟨by rw [decide_eq_true (in_at (by omega) h15)], hS.none⟩
    ·
      refine c_skip ?_
      refine c_region ?_
      refine seqq (o_y (y_addI rfl rfl (by omega)) rfl ?_)
      refine j_re 16 rfl (show _ = vI ((x + 1 : Nat) : Int) from rfl) ?_
      refine seqq (o_y (y_move rfl) rfl ?_)
      refine c_nil ?_
      exact c_next (x + 1) ⟨by omega, fun j hj => by rcases Nat.lt_or_eq_of_le (Nat.le_of_lt_succ hj) with hj | hj; exact hx2 j hj; subst hj; exact h15⟩ (by omega) ⟨rfl, rfl, rfl, rfl, trivial⟩
  ·
    refine c_exit ?_
    refine c_seq ?_
    refine c_region ?_
    refine seqq (o_y (y_assign rfl) rfl ?_)
    refine c_nil ?_
    refine c_ret ?_
    refine c_done1 Tryz.results28 (.tmp rfl) (fun w hS => ?_)
    exact ⟨by rw [decide_eq_false (in_upto (fun j hj => hx2 j (by omega)))], hS.none⟩

theorem law_in_nil (h : H32) (N : List Seg) : PureS Tryz.prog (Pts N) 28 [.slice none 0 0, vH h] (.bool false) := by
  intro w hw
  refine beginR Tryz.func28 rfl Tryz.ntmps28 rfl hw ?_
  refine c_seq ?_
  refine c_region ?_
  refine seqq (o_box (T := 26) rfl (IsP.agg).cells rfl (fun b3 => ?_))
  refine seqq (o_y (y_assign rfl) rfl ?_)
  refine c_nil ?_
  refine c_seq ?_
  refine c_seq ?_
  refine c_region ?_
  refine seqq (o_y (y_move rfl) rfl ?_)
  refine seqq (o_y (y_len (tys := #[]) Tryz.runUnderlying71 rfl) rfl ?_)
  refine seqq (o_y (y_move rfl) rfl ?_)
  refine c_nil ?_
  refine c_block ?_
  refine c_loop 1 ?_
  refine c_round ?_
  refine c_seq ?_
  refine c_region ?_
  refine seqq (o_y (y_lssZ rfl rfl) rfl ?_)
  refine j_re 10 rfl (V.decF (by decide)) ?_
  refine c_nil ?_
  refine c_seq ?_
  refine c_condF rfl ?_
  refine c_exit ?_
  refine c_seq ?_
  refine c_region ?_
  refine seqq (o_y (y_assign rfl) rfl ?_)
  refine c_nil ?_
  refine c_ret ?_
  refine c_done1 Tryz.results28 (.tmp rfl) (fun w hS => ?_)
  exact ⟨rfl, hS.none⟩

theorem law_in (g : VG) (l : List H32) (h : H32) (hok : g.ok 32 l.length (HsC l)) (hb : l.length ≤ 1073741824) : PureS Tryz.prog (Pts [g.seg 26 (HsC l)]) 28 [g.val l.length, vH h] (.bool (decide (h ∈ l))) := by
  cases g with
  | nil =>
    have : l = [] := List.eq_nil_of_length_eq_zero hok.1
    subst this
    exact law_in_nil h _
  | blk b cap sp => exact law_in_blk b cap l sp h hb
def turnedH (was now : List H32) : Nat := (was.filter fun h => !decide (h ∈ now)).length
theorem turned_step (l m : List H32) (x : Nat) (h : x < l.length) : turnedH (l.take (x + 1)) m = if l.getD x h0 ∈ m then turnedH (l.take x) m else turnedH (l.take x) m + 1 := by
  rw [← take_moreH l x h, turnedH, turnedH, List.filter_append, List.length_append]
  by_cases h1 : l.getD x h0 ∈ m
  · rw [if_pos h1, List.filter_cons_of_neg (by rw [decide_eq_true h1]; decide)]; rfl
  · rw [if_neg h1, List.filter_cons_of_pos (by rw [decide_eq_false h1]; decide)]; rfl

theorem law_turned_blk (b cap : Nat) (l : List H32) (sp : List Value) (g : VG) (m : List H32) (hok : g.ok 32 m.length (HsC m)) (hb : l.length ≤ 1073741824) (hm : m.length ≤ 1073741824) : PureS Tryz.prog (Pts [[(b, .cells (HsC l ++ sp).toArray 26 (0, 0))], g.seg 26 (HsC m)]) 32 [(.slice (some ⟨b, 0, none⟩) l.length cap), g.val m.length] (vI (turnedH l m : Int)) := by
  intro w hw
  refine beginR Tryz.func32 rfl Tryz.ntmps32 rfl hw ?_
  refine c_seq ?_
  refine c_region ?_
  refine seqq (o_y (y_assign rfl) rfl ?_)
  refine c_nil ?_
  refine c_seq ?_
  refine c_region ?_
  refine seqq (o_y (y_assign rfl) rfl ?_)
  refine c_nil ?_
  refine c_seq ?_
  refine c_seq ?_
  refine c_region ?_
  refine seqq (o_y (y_move rfl) rfl ?_)
  refine seqq (o_y (y_len (tys := #[]) Tryz.runUnderlying71 rfl) rfl ?_)
  refine seqq (o_y (y_move rfl) rfl ?_)
  refine c_nil ?_
  refine c_block ?_
  refine c_while (X := Nat) [1, 8, 9] [] rfl (fun Ek x => (10, vI (x : Int)) :: (5, vI (turnedH (l.take x) m : Int)) :: Ek) (fun Mk x => Mk) (fun x => x ≤ l.length) (fun x => l.length - x) 0 (Nat.zero_le _) ⟨rfl, rfl, rfl, rfl, rfl, trivial⟩ ?_
  intro x hx
  have htl : turnedH (l.take x) m ≤ (l.take x).length := List.length_filter_le _ _
  rw [List.length_take] at htl
  refine c_seq ?_
  refine c_region ?_
  refine seqq (o_y (y_lssZ rfl rfl) rfl ?_)
  refine c_nil ?_
  refine c_seq ?_
  refine c_if rfl (fun h11 => ?_) (fun h11 => ?_)
  ·
    refine c_skip ?_
    refine c_seq ?_
    refine c_block ?_
    refine c_seq ?_
    refine c_region ?_
    refine seqq (o_y (y_indexAddrS Tryz.runUnderlying71 Tryz.sizeOf26 rfl rfl (by omega)) rfl ?_)
    refine seqq (o_y (l_hs x rfl (by omega) (by omega)) rfl ?_)
    refine seqq (o_alloc (ps := [hP h0]) Tryz.zeroValue26 (by kernel_rfl) rfl (fun b7 => ?_))
    refine seqq (stN Tryz.sizeOf26 rfl rfl (by rfl) rfl (by rfl) ?_)
    refine c_nil ?_
    refine c_seq ?_
    refine c_region ?_
    refine seqq (o_y (y_move rfl) rfl ?_)
    refine seqq (o_y (lN Tryz.isAgg26 Tryz.sizeOf26 rfl (by rfl)) rfl ?_)
    refine seqq (o_pureS Tryz.call28 rfl (PureS.sub (law_in g m (l.getD x h0) hok hm)) rfl ?_)
    refine seqq (o_y (y_not rfl) rfl ?_)
    refine c_nil ?_
    refine c_cond rfl (fun h17 => ?_) (fun h17 => ?_)
    ·
      refine c_region ?_
      refine seqq (o_y (y_move rfl) rfl ?_)
      refine seqq (o_y (y_addI rfl rfl (by omega)) rfl ?_)
      refine seqq (o_y (y_assign rfl) rfl ?_)
      refine c_nil ?_
      refine c_region ?_
      refine seqq (o_y (y_addI rfl rfl (by omega)) rfl ?_)
      refine j_re 5 rfl (show _ = vI (turnedH (l.take (x + 1)) m : Int) from by rw [turned_step l m x (by omega), if_neg (by simpa using h17)]; rfl) ?_
      refine j_re 20 rfl (show _ = vI ((x + 1 : Nat) : Int) from rfl) ?_
      refine seqq (o_y (y_move rfl) rfl ?_)
      refine c_nil ?_
      exact c_next (x + 1) (by omega) (by omega) ⟨rfl, rfl, rfl, rfl, rfl, trivial⟩
    ·
      refine c_skip ?_
      refine c_region ?_
      refine seqq (o_y (y_addI rfl rfl (by omega)) rfl ?_)
      refine j_re 5 rfl (show _ = vI (turnedH (l.take (x + 1)) m : Int) from by rw [turned_step l m x (by omega), if_pos (by simpa using h17)]) ?_
      refine j_re 20 rfl (show _ = vI ((x + 1 : Nat) : Int) from rfl) ?_
      refine seqq (o_y (y_move rfl) rfl ?_)
      refine c_nil ?_
      exact c_next (x + 1) (by omega) (by omega) ⟨rfl, rfl, rfl, rfl, rfl, trivial⟩
  ·
    refine c_exit ?_
    refine c_seq ?_
    refine c_region ?_
    refine seqq (o_y (y_move rfl) rfl ?_)
    refine seqq (o_y (y_assign rfl) rfl ?_)
    refine c_nil ?_
    refine c_ret ?_
    refine c_done1 Tryz.results32 (.tmp rfl) (fun w hS => ?_)
    exact ⟨by rw [show x = l.length from by omega, List.take_length], hS.none⟩

theorem law_turned_nil (v : Value) (N : List Seg) : PureS Tryz.prog (Pts N) 32 [.slice none 0 0, v] (vI 0) := by
  intro w hw
  refine beginR Tryz.func32 rfl Tryz.ntmps32 rfl hw ?_
  refine c_seq ?_
  refine c_region ?_
  refine seqq (o_y (y_assign rfl) rfl ?_)
  refine c_nil ?_
  refine c_seq ?_
  refine c_region ?_
  refine seqq (o_y (y_assign rfl) rfl ?_)
  refine c_nil ?_
  refine c_seq ?_
  refine c_seq ?_
  refine c_region ?_
  refine seqq (o_y (y_move rfl) rfl ?_)
  refine seqq (o_y (y_len (tys := #[]) Tryz.runUnderlying71 rfl) rfl ?_)
  refine seqq (o_y (y_move rfl) rfl ?_)
  refine c_nil ?_
  refine c_block ?_
  refine c_loop 1 ?_
  refine c_round ?_
  refine c_seq ?_
  refine c_region ?_
  refine seqq (o_y (y_lssZ rfl rfl) rfl ?_)
  refine j_re 11 rfl (V.decF (by decide)) ?_
  refine c_nil ?_
  refine c_seq ?_
  refine c_condF rfl ?_
  refine c_exit ?_
  refine c_seq ?_
  refine c_region ?_
  refine seqq (o_y (y_move rfl) rfl ?_)
  refine seqq (o_y (y_assign rfl) rfl ?_)
  refine c_nil ?_
  refine c_ret ?_
  refine c_done1 Tryz.results32 (.tmp rfl) (fun w hS => ?_)
  exact ⟨rfl, hS.none⟩

theorem law_turned (g' : VG) (l : List H32) (g : VG) (m : List H32) (hok' : g'.ok 32 l.length (HsC l)) (hok : g.ok 32 m.length (HsC m)) (hb : l.length ≤ 1073741824) (hm : m.length ≤ 1073741824) :
    PureS Tryz.prog (Pts [g'.seg 26 (HsC l), g.seg 26 (HsC m)]) 32 [g'.val l.length, g.val m.length] (vI (turnedH l m : Int)) := by
  cases g' with
  | nil =>
    have : l = [] := List.eq_nil_of_length_eq_zero hok'.1
    subst this
    exact law_turned_nil _ _
  | blk b cap sp => exact law_turned_blk b cap l sp g m hok hb hm
