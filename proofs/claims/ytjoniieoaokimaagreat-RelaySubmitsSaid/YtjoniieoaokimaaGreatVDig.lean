/- Walks and laws of this claim, part Dig. -/
import Derived.Test.YtjoniieoaokimaaGreatVTarg
import Derived.Test.YtjoniieoaokimaaGreatVSl
set_option linter.unusedVariables false
set_option linter.unusedSimpArgs false
set_option linter.unusedSectionVars false
set_option autoImplicit true
set_option relaxedAutoImplicit true
set_option maxRecDepth 100000
set_option maxHeartbeats 1000000
namespace Go.Proofs
open V

theorem slices_Clone_nil (w : World) : Quiet Tryz.prog 95 [.slice none 0 0] (NewSl 5 []) w := by
  refine begin0 Tryz.func95 rfl Tryz.ntmps95 rfl ?_
  refine c_seq ?_
  refine c_region ?_
  refine seqq (o_y (y_assign rfl) rfl ?_)
  refine c_nil ?_
  refine c_seq ?_
  refine c_seq ?_
  refine c_region ?_
  refine seqq (o_y (y_move rfl) rfl ?_)
  refine seqq (o_y (y_eqlNilSk (v := true) Tryz.runUnderlying36 rfl rfl rfl) rfl ?_)
  refine c_nil ?_
  refine c_condT rfl ?_
  refine c_seq ?_
  refine c_region ?_
  refine seqq (o_y (y_assign rfl) rfl ?_)
  refine c_nil ?_
  refine c_ret ?_
  refine c_done1 Tryz.results95 (.tmp rfl) (fun w hS => ?_)
  exact ⟨_, ⟨.nil, rfl, ⟨rfl, rfl⟩, rfl⟩, hS.drop (by simp [VG.seg])⟩

theorem slices_Clone_blk (w : World) (b off cap : Nat) (l cs : List Value) (T : TypeId) (fr : Nat × Nat) (hc : cs.length ≤ cap) (hb : w.heap[b]? = some (.cells l.toArray T fr)) (hl : ∀ j v, cs[j]? = some v → l[off + j]? = some v)
    (hone : ∀ v ∈ cs, one1 v = true) (hlen : cs.length ≤ 1099511627776) : Quiet Tryz.prog 95 [.slice (some ⟨b, off, none⟩) cs.length cap] (NewSl 5 cs) w := by
  refine beginR Tryz.func95 rfl Tryz.ntmps95 rfl (Rd := [[(b, .cells l.toArray T fr)]]) (by intro p hp; simp at hp; subst hp; exact hb) ?_
  refine c_seq ?_
  refine c_region ?_
  refine seqq (o_y (y_assign rfl) rfl ?_)
  refine c_nil ?_
  refine c_seq ?_
  refine c_seq ?_
  refine c_region ?_
  refine seqq (o_y (y_move rfl) rfl ?_)
  refine seqq (o_y (y_eqlNilSk (v := false) Tryz.runUnderlying36 rfl rfl rfl) rfl ?_)
  refine c_nil ?_
  refine c_condF rfl ?_
  refine c_skip ?_
  refine c_seq ?_
  refine c_region ?_
  refine seqq (o_buildSlice0 Tryz.runUnderlying36 Tryz.sizeOf5 rfl (fun b5 => ?_))
  refine seqq (o_y (y_move rfl) rfl ?_)
  refine seqq (o_append (m := cs.length) (news := cs) (cs := []) (l := 0) (by_ := 1) (.blk b5 0 []) Tryz.runUnderlying36 Tryz.sizeOf5 Tryz.zeroValue5 (by kernel_rfl) Tryz.typeInfo5 rfl Tryz.runUnderlying36 rfl rfl rfl (⟨rfl, rfl, Nat.le_refl _⟩) (reads_cells (by simp) hl) (by simp) (hone) (hF := ⟨.here⟩) (by omega) (by decide) rfl (fun g2 hg2 => ?_))
  refine seqq (o_y (y_assign rfl) rfl ?_)
  refine c_nil ?_
  refine c_ret ?_
  refine c_done1 Tryz.results95 (.tmp rfl) (fun w hS => ?_)
  rw [List.nil_append, Nat.zero_add] at hg2
  rw [Nat.zero_add]
  have hS2 := hS.fin (N := [g2.seg 5 ([] ++ cs)])
  rw [List.nil_append] at hS2
  exact ⟨_, ⟨g2, rfl, hg2, rfl⟩, hS2⟩

theorem slices_Clone {w : World} {v : Value} {cs : List Value} (h : SlIn w v cs) (hone : ∀ v ∈ cs, one1 v = true) (hlen : cs.length ≤ 1099511627776) : Quiet Tryz.prog 95 [v] (NewSl 5 cs) w := by
  cases h with
  | nil => exact slices_Clone_nil w
  | blk hc hb hl => exact slices_Clone_blk w _ _ _ _ cs _ _ hc hb hl hone hlen

theorem slices_Chunk0 (a : Option Addr) (m c : Nat) (n : Int) (hn : 1 ≤ n) (w : World) : Quiet Tryz.prog 117 [.slice a m c, vI n]
    (fun u L' => ∃ x : Nat × Nat, True ∧ u = .func (.func 129) #[] [.pointer (some ⟨x.1, 0, none⟩), .pointer (some ⟨x.2, 0, none⟩)].toArray ∧ L' = [[(x.1, obj 36 [P1 (.slice a m c) rfl])], [(x.2, obj 3 [P1 (vI n) rfl])]]) w := by
  refine begin0 Tryz.func117 rfl Tryz.ntmps117 rfl ?_
  refine c_seq ?_
  refine c_region ?_
  refine seqq (o_box (T := 36) rfl (IsP.one rfl).cells rfl (fun b2 => ?_))
  refine seqq (o_box (T := 3) rfl (IsP.one rfl).cells rfl (fun b3 => ?_))
  refine seqq (o_y (y_assign rfl) rfl ?_)
  refine c_nil ?_
  refine c_seq ?_
  refine c_seq ?_
  refine c_region ?_
  refine seqq (o_y (l1 Tryz.isAgg3 rfl (by rfl)) rfl ?_)
  refine seqq (o_y (y_lssZ rfl rfl) rfl ?_)
  refine j_re 6 rfl (V.decF (by omega)) ?_
  refine c_nil ?_
  refine c_condF rfl ?_
  refine c_skip ?_
  refine c_seq ?_
  refine c_region ?_
  refine seqq (o_y (y_makeFunc rfl) rfl ?_)
  refine seqq (o_y (y_assign rfl) rfl ?_)
  refine c_nil ?_
  refine c_ret ?_
  refine c_done1 Tryz.results117 (.tmp rfl) (fun w hS => ?_)
  exact ⟨_, ⟨(b2, b3), trivial, rfl, rfl⟩, hS.fin (N := [[(b2, obj 36 [P1 (.slice a m c) rfl])], [(b3, obj 3 [P1 (vI n) rfl])]])⟩

theorem iter_Chunk (b2 b3 b off cap n q : Nat) (hn : 1 ≤ n) (hcap : n * q ≤ cap) (hbig : n * q + n < 4611686018427387904) :
    Iter Tryz.prog 129 [.pointer (some ⟨b2, 0, none⟩), .pointer (some ⟨b3, 0, none⟩)] ((List.range q).map fun k => [.slice (some ⟨b, off + n * k, none⟩) n n]) (Pts [[(b2, obj 36 [P1 (.slice (some ⟨b, off, none⟩) (n * q) cap) rfl])], [(b3, obj 3 [P1 (vI (n : Int)) rfl])]]) := by
  intro l I X hSS hEE hXX hRR w h0
  refine beginR Tryz.func129 rfl Tryz.ntmps129 rfl (Rd := [[(b2, obj 36 [P1 (.slice (some ⟨b, off, none⟩) (n * q) cap) rfl])], [(b3, obj 3 [P1 (vI (n : Int)) rfl])]]) (hSS 0 w h0) ?_
  refine c_seq ?_
  refine c_region ?_
  refine seqq (o_y (y_assign rfl) rfl ?_)
  refine c_nil ?_
  refine c_block ?_
  refine c_rounds (X := Nat) (Rd := [[(b2, obj 36 [P1 (.slice (some ⟨b, off, none⟩) (n * q) cap) rfl])], [(b3, obj 3 [P1 (vI (n : Int)) rfl])]]) (fun x => [(0, .func (.yield l) #[] #[]), (1, .pointer (some ⟨b2, 0, none⟩)), (2, .pointer (some ⟨b3, 0, none⟩)), (4, vI ((n * x : Nat) : Int))]) (fun x w => x ≤ q ∧ I x w) (fun x => q - x) 0 (fun w hS => ⟨Nat.zero_le _, hEE 0 _ _ hS.none h0⟩) (fun x w hp => hSS _ _ hp.2) ⟨rfl, rfl, rfl, rfl, trivial⟩ ?_
  intro x w hp
  refine c_seq ?_
  refine c_seq ?_
  refine c_region ?_
  refine seqq (o_y (y_move rfl) rfl ?_)
  refine seqq (o_y (l1 Tryz.isAgg36 rfl (by rfl)) rfl ?_)
  refine seqq (o_y (y_len (tys := #[]) Tryz.runUnderlying36 rfl) rfl ?_)
  refine seqq (o_y (y_lssZ rfl rfl) rfl ?_)
  refine c_nil ?_
  refine c_if rfl (fun h9 => ?_) (fun h9 => ?_)
  ·
    have hx : x < q := by
      have h9x : n * x < n * q := by exact_mod_cast h9
      exact Nat.lt_of_mul_lt_mul_left h9x
    have hge : n * x + n ≤ n * q := Nat.mul_le_mul_left n hx
    refine c_skip ?_
    refine c_seq ?_
    refine c_block ?_
    refine c_seq ?_
    refine d_reg 6 mixed rfl ?_
    refine d_s (i := 0) (k' := 1) rfl (by kernel_rfl) (by kernel_rfl) (l1 Tryz.isAgg3 rfl (by rfl)) hss rfl ?_
    refine d_s (i := 1) (k' := 3) rfl (by kernel_rfl) (by kernel_rfl) (l1 Tryz.isAgg36 rfl (by rfl)) hss rfl ?_
    refine d_y (i := 2) (k' := 7) rfl (by kernel_rfl) (y_move rfl) rfl ?_
    refine d_y (i := 3) (k' := 15) rfl (by kernel_rfl) (y_sliceLo (lo := n * x) Tryz.runUnderlying36 Tryz.sizeOf5 rfl rfl rfl (by omega)) rfl ?_
    refine d_y (i := 4) (k' := 31) rfl (by kernel_rfl) (y_len (tys := #[]) Tryz.runUnderlying36 rfl) rfl ?_
    refine d_y (i := 5) (k' := 63) rfl (by kernel_rfl) (y_minI rfl rfl) rfl ?_
    refine j_re 18 rfl (show _ = vI (n : Int) from by rw [if_neg (by omega)]) ?_
    refine d_y (i := 6) (k' := 127) rfl (by kernel_rfl) (y_assign rfl) rfl ?_
    refine d_end (by kernel_rfl) ?_
    refine c_seq ?_
    refine c_regionI ?_
    refine i_op rfl (o_y (y_move rfl) rfl ?_)
    refine i_op rfl (o_y (l1 Tryz.isAgg36 rfl (by rfl)) rfl ?_)
    refine i_op rfl (o_y (y_move rfl) rfl ?_)
    refine i_op rfl (o_y (y_move rfl) rfl ?_)
    refine i_op rfl (o_y (y_move rfl) rfl ?_)
    refine i_op rfl (o_y (y_addI rfl rfl (by omega)) rfl ?_)
    refine i_op rfl (o_y (y_move rfl) rfl ?_)
    refine i_op rfl (o_y (y_move rfl) rfl ?_)
    refine i_op rfl (o_y (y_addI rfl rfl (by omega)) rfl ?_)
    refine i_op rfl (o_y (y_slice3 (lo := n * x) (hi := n * x + n) (mx := n * x + n) Tryz.runUnderlying36 Tryz.sizeOf5 rfl rfl rfl rfl rfl rfl rfl (by omega)) rfl ?_)
    refine j_re 28 rfl (show _ = .slice (some ⟨b, off + n * x, none⟩) n n from by rw [soff, if_neg (by omega), Nat.mul_one, Nat.add_sub_cancel_left]) ?_
    refine i_yieldI (k := x) rfl rfl rfl (fun w2 hw => hEE x _ _ hw.none hp.2) (fun w2 hw => hRR x w2 _ (by simp [hx]) hw) (fun w2 hw => hSS (x + 1) w2 hw) (fun w2 hI2 => ?_) (fun w2 hX2 => ?_)
    ·
      refine i_op rfl (o_y (y_not (b := true) rfl) rfl ?_)
      refine i_nil ?_
      refine c_condF rfl ?_
      refine c_skip ?_
      refine c_region ?_
      refine seqq (o_y (y_move rfl) rfl ?_)
      refine seqq (o_y (l1 Tryz.isAgg3 rfl (by rfl)) rfl ?_)
      refine seqq (o_y (y_addI rfl rfl (by omega)) rfl ?_)
      refine j_re 12 rfl (show _ = vI ((n * (x + 1) : Nat) : Int) from by congr 1) ?_
      refine seqq (o_y (y_assign rfl) rfl ?_)
      refine c_nil ?_
      exact c_rounded (x + 1) (fun w hw => ⟨hx, hEE _ _ _ hw.none hI2⟩) (by omega) ⟨rfl, rfl, rfl, rfl, trivial⟩
    ·
      refine i_op rfl (o_y (y_not (b := false) rfl) rfl ?_)
      refine i_nil ?_
      refine c_condT rfl ?_
      refine c_ret ?_
      refine c_done0 Tryz.results129  (fun w hS => ?_)
      exact .inr (hXX _ _ hS.none hX2)
  ·
    have hx : x = q := by
      have h9x : n * q ≤ n * x := by exact_mod_cast Int.not_lt.1 h9
      have := Nat.le_of_mul_le_mul_left h9x (by omega)
      omega
    refine c_exit ?_
    refine c_end ?_
    refine c_done0 Tryz.results129  (fun w hS => ?_)
    subst hx
    exact .inl (by rw [List.length_map, List.length_range]; exact hEE _ _ _ hS.none hp.2)
