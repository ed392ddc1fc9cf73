/- Walks and laws of this claim, part Med. -/
import Derived.Test.YtjoniieoaokimaaGreatVSrt
set_option linter.unusedVariables false
set_option linter.unusedSimpArgs false
set_option linter.unusedSectionVars false
set_option autoImplicit true
set_option relaxedAutoImplicit true
set_option maxRecDepth 100000
set_option maxHeartbeats 1000000
namespace Go.Proofs
open V
theorem take_more (ws : List (BitVec 32)) (k : Nat) (h : k < ws.length) : ws.take k ++ [ws.getD k 0#32] = ws.take (k + 1) := by
  have : ws.getD k 0#32 = ws[k] := by simp [List.getD, List.getElem?_eq_getElem h]
  rw [this, List.take_succ_eq_append_getElem h]
def ones (ws : List (BitVec 32)) : List (List Value) := ws.map fun (x : BitVec 32) => [bv .u32 x]

theorem slices_Values0 (a : Value) (h1 : one1 a = true) (w : World) : Quiet Tryz.prog 123 [a] (fun u L => ∃ x : Nat, True ∧ u = .func (.func 137) #[] [.pointer (some ⟨x, 0, none⟩)].toArray ∧ L = [[(x, obj 152 [P1 a h1])]]) w := by
  refine begin0 Tryz.func123 rfl Tryz.ntmps123 rfl ?_
  refine c_seq ?_
  refine c_region ?_
  refine seqq (o_box (T := 152) rfl (IsP.one h1).cells rfl (fun b1 => ?_))
  refine seqq (o_y (y_assign rfl) rfl ?_)
  refine c_nil ?_
  refine c_seq ?_
  refine c_region ?_
  refine seqq (o_y (y_makeFunc rfl) rfl ?_)
  refine seqq (o_y (y_assign rfl) rfl ?_)
  refine c_nil ?_
  refine c_ret ?_
  refine c_done1 Tryz.results123 (.tmp rfl) (fun w hS => ?_)
  exact ⟨_, ⟨b1, trivial, rfl, rfl⟩, hS.fin (N := [[(b1, obj 152 [P1 a h1])]])⟩

theorem iter_Values_blk (b1 : Nat) (b cap : Nat) (ws : List (BitVec 32)) (sp : List Value) (hb : ws.length ≤ 1073741824) :
    Iter Tryz.prog 137 [.pointer (some ⟨b1, 0, none⟩)] (ones ws) (Pts [[(b1, obj 152 [P1 (.slice (some ⟨b, 0, none⟩) ws.length cap) rfl])], [(b, .cells (Wd ws ++ sp).toArray 22 (0, 0))]]) := by
  intro l I X hSS hEE hXX hRR w h0
  refine beginR Tryz.func137 rfl Tryz.ntmps137 rfl (Rd := [[(b1, obj 152 [P1 (.slice (some ⟨b, 0, none⟩) ws.length cap) rfl])], [(b, .cells (Wd ws ++ sp).toArray 22 (0, 0))]]) (hSS 0 w h0) ?_
  refine c_seq ?_
  refine c_region ?_
  refine seqq (o_y (l1 Tryz.isAgg152 rfl (by rfl)) rfl ?_)
  refine seqq (o_y (y_len (tys := #[]) Tryz.runUnderlying152 rfl) rfl ?_)
  refine seqq (o_y (y_move rfl) rfl ?_)
  refine c_nil ?_
  refine c_block ?_
  refine c_rounds (X := Nat) (Rd := [[(b1, obj 152 [P1 (.slice (some ⟨b, 0, none⟩) ws.length cap) rfl])], [(b, .cells (Wd ws ++ sp).toArray 22 (0, 0))]]) (fun x => [(0, .func (.yield l) #[] #[]), (1, .pointer (some ⟨b1, 0, none⟩)), (5, .slice (some ⟨b, 0, none⟩) ws.length cap), (6, vI (ws.length : Int)), (7, vI (x : Int))]) (fun x w => x ≤ ws.length ∧ I x w) (fun x => ws.length - x) 0 (fun w hS => ⟨Nat.zero_le _, hEE 0 _ _ hS.none h0⟩) (fun x w hp => hSS _ _ hp.2) ⟨rfl, rfl, rfl, rfl, rfl, trivial⟩ ?_
  intro x w hp
  refine c_seq ?_
  refine c_region ?_
  refine seqq (o_y (y_lssZ rfl rfl) rfl ?_)
  refine c_nil ?_
  refine c_seq ?_
  refine c_if rfl (fun h8 => ?_) (fun h8 => ?_)
  ·
    refine c_skip ?_
    refine c_seq ?_
    refine c_block ?_
    refine c_seq ?_
    refine c_region ?_
    refine seqq (o_y (y_indexAddrS Tryz.runUnderlying152 Tryz.sizeOf22 rfl rfl (by omega)) rfl ?_)
    refine seqq (o_y (lC (v := bv .u32 (ws.getD x 0#32)) Tryz.isAgg22 x rfl (by omega) (wd_get (by omega))) rfl ?_)
    refine seqq (o_y (y_assign rfl) rfl ?_)
    refine c_nil ?_
    refine c_seq ?_
    refine c_regionI ?_
    refine i_op rfl (o_y (y_move rfl) rfl ?_)
    refine i_op rfl (o_y (y_move rfl) rfl ?_)
    refine i_yieldI (k := x) rfl rfl rfl (fun w2 hw => hEE x _ _ hw.none hp.2) (fun w2 hw => hRR x w2 _ (by simp only [ones]; rw [List.getElem?_map, List.getElem?_eq_getElem (show x < ws.length by omega)]; simp [List.getD, List.getElem?_eq_getElem (show x < ws.length by omega)]) hw) (fun w2 hw => hSS (x + 1) w2 hw) (fun w2 hI2 => ?_) (fun w2 hX2 => ?_)
    ·
      refine i_op rfl (o_y (y_not (b := true) rfl) rfl ?_)
      refine i_nil ?_
      refine c_condF rfl ?_
      refine c_skip ?_
      refine c_region ?_
      refine seqq (o_y (y_addI rfl rfl (by omega)) rfl ?_)
      refine j_re 15 rfl (show _ = vI ((x + 1 : Nat) : Int) from rfl) ?_
      refine seqq (o_y (y_move rfl) rfl ?_)
      refine c_nil ?_
      exact c_rounded (x + 1) (fun w hw => ⟨by omega, hEE _ _ _ hw.none hI2⟩) (by omega) ⟨rfl, rfl, rfl, rfl, rfl, trivial⟩
    ·
      refine i_op rfl (o_y (y_not (b := false) rfl) rfl ?_)
      refine i_nil ?_
      refine c_condT rfl ?_
      refine c_ret ?_
      refine c_done0 Tryz.results137  (fun w hS => ?_)
      exact .inr (hXX _ _ hS.none hX2)
  ·
    refine c_exit ?_
    refine c_end ?_
    refine c_done0 Tryz.results137  (fun w hS => ?_)
    have hx : x = ws.length := by omega
    subst hx
    exact .inl (by simp only [ones, List.length_map]; exact hEE _ _ _ hS.none hp.2)

theorem iter_Values_nil (b1 : Nat)  :
    Iter Tryz.prog 137 [.pointer (some ⟨b1, 0, none⟩)] (ones []) (Pts [[(b1, obj 152 [P1 (.slice none 0 0) rfl])], []]) := by
  intro l I X hSS hEE hXX hRR w h0
  refine beginR Tryz.func137 rfl Tryz.ntmps137 rfl (Rd := [[(b1, obj 152 [P1 (.slice none 0 0) rfl])], []]) (hSS 0 w h0) ?_
  refine c_seq ?_
  refine c_region ?_
  refine seqq (o_y (l1 Tryz.isAgg152 rfl (by rfl)) rfl ?_)
  refine seqq (o_y (y_len (tys := #[]) Tryz.runUnderlying152 rfl) rfl ?_)
  refine seqq (o_y (y_move rfl) rfl ?_)
  refine c_nil ?_
  refine c_block ?_
  refine c_loop 1 ?_
  refine c_round ?_
  refine c_seq ?_
  refine c_region ?_
  refine seqq (o_y (y_lssZ rfl rfl) rfl ?_)
  refine j_re 8 rfl (V.decF (by decide)) ?_
  refine c_nil ?_
  refine c_seq ?_
  refine c_condF rfl ?_
  refine c_exit ?_
  refine c_end ?_
  refine c_done0 Tryz.results137  (fun w hS => ?_)
  exact .inl (hEE 0 _ _ hS.none h0)

theorem iter_Values (b1 : Nat) (g : VG) (ws : List (BitVec 32)) (hb : ws.length ≤ 1073741824) (hok : g.ok 1 ws.length (Wd ws)) :
    Iter Tryz.prog 137 [.pointer (some ⟨b1, 0, none⟩)] (ones ws) (Pts [[(b1, obj 152 [P1 (g.val ws.length) (vg_one _ _)])], g.seg 22 (Wd ws)]) := by
  cases g with
  | nil =>
    have : ws = [] := List.eq_nil_of_length_eq_zero hok.1
    subst this
    exact iter_Values_nil b1
  | blk b cap sp => exact iter_Values_blk b1 b cap ws sp hb

theorem slices_AppendSeq0 (gf : FuncId) (caps : List Value) (ws : List (BitVec 32)) (N : List Seg) (hit : Iter Tryz.prog gf caps (ones ws) (Pts N)) (eg : ∀ args w, (callFunc gf args).run Tryz.prog w = .ok (.enter gf args) w) (hb : ws.length ≤ 1073741824) (w : World) (hw : Pts N w) :
    Quiet Tryz.prog 142 [.slice none 0 0, .func (.func gf) #[] caps.toArray] (NewSl 22 (Wd ws)) w := by
  refine beginMR Tryz.func142 rfl Tryz.ntmps142 rfl hw ?_
  refine c_seq ?_
  refine c_region ?_
  refine seqq (o_box (T := 152) rfl (IsP.one rfl).cells rfl (fun b2 => ?_))
  refine seqq (o_y (y_assign rfl) rfl ?_)
  refine c_nil ?_
  refine c_seq ?_
  refine c_seq ?_
  refine c_region ?_
  refine seqq (o_y (y_move rfl) rfl ?_)
  refine j_obj b2 (ps' := [P1 (VG.nil.val (ws.take 0).length) (vg_one _ _)]) rfl (by rfl) ?_
  refine j_nilseg (T := 22) (cs := Wd (ws.take 0)) ?_
  refine c_nil ?_
  refine c_block ?_
  refine c_rangeK (X := Nat × VG) (Z := Empty) [2] [] rfl (fun Mk y => [(b2, obj 152 [P1 (y.2.val (ws.take y.1).length) (vg_one _ _)])] :: y.2.seg 22 (Wd (ws.take y.1)) :: Mk) (fun k y => y.1 = k ∧ k ≤ ws.length ∧ y.2.ok 1 (ws.take y.1).length (Wd (ws.take y.1))) (fun _ z => nomatch z) (fun _ z => nomatch z) (fun Ek vs => (5, vs.getD 0 undef) :: Ek) (0, VG.nil) ⟨rfl, Nat.zero_le _, ⟨rfl, rfl⟩⟩ rfl eg (hit) (fun k y w hp hS => hS.rdw) (by simp [ones]) rfl ?_ ?_ ?_ (fun _ _ z => nomatch z)
  ·
    intro l k y vs w hp hvs
    obtain ⟨hk1, hk2, hk3⟩ := hp
    obtain ⟨hk4, rfl⟩ : y.1 < ws.length ∧ vs = [bv .u32 (ws.getD y.1 0#32)] := by
      rw [hk1]
      simp only [ones] at hvs
      rw [List.getElem?_map] at hvs
      rcases Nat.lt_or_ge k ws.length with h | h
      · rw [List.getElem?_eq_getElem h] at hvs; simp only [Option.map_some, Option.some.injEq] at hvs; exact ⟨h, by rw [← hvs]; simp [List.getD, List.getElem?_eq_getElem h]⟩
      · rw [List.getElem?_eq_none h] at hvs; cases hvs
    refine i_region ?_
    refine i_op rfl (o_y (y_assign rfl) rfl ?_)
    refine i_nil ?_
    exact k_assigned ⟨rfl, rfl, trivial⟩
  ·
    intro l k y vs w hp hvs
    obtain ⟨hk1, hk2, hk3⟩ := hp
    obtain ⟨hk4, rfl⟩ : y.1 < ws.length ∧ vs = [bv .u32 (ws.getD y.1 0#32)] := by
      rw [hk1]
      simp only [ones] at hvs
      rw [List.getElem?_map] at hvs
      rcases Nat.lt_or_ge k ws.length with h | h
      · rw [List.getElem?_eq_getElem h] at hvs; simp only [Option.map_some, Option.some.injEq] at hvs; exact ⟨h, by rw [← hvs]; simp [List.getD, List.getElem?_eq_getElem h]⟩
      · rw [List.getElem?_eq_none h] at hvs; cases hvs
    refine i_block ?_
    refine i_region ?_
    refine i_op rfl (o_y (l1 Tryz.isAgg152 rfl (by rfl)) rfl ?_)
    refine i_op rfl (o_y (y_move rfl) rfl ?_)
    refine i_op rfl (o_buildSlice (zs := [P1 (bv .u32 0#32)]) Tryz.runUnderlying152 Tryz.sizeOf22 Tryz.zeroValue22 (by kernel_rfl) rfl rfl (.one rfl rfl .nil) (by rfl) rfl (fun b10 => ?_))
    refine i_op rfl (o_appW (ws := ws.take y.1) (x32 := ws.getD y.1 0#32) y.2 Tryz.runUnderlying152 Tryz.sizeOf22 Tryz.zeroValue22 (by kernel_rfl) Tryz.typeInfo22 rfl Tryz.runUnderlying152 rfl rfl rfl rfl hk3 (by rfl) (by rw [List.length_take]; omega) rfl (fun g2 hg2 => ?_))
    rw [take_more ws y.1 hk4] at hg2
    rw [take_more ws y.1 hk4]
    refine i_op rfl (st1 (h1 := vg_one _ _) Tryz.sizeOf152 rfl rfl (by rfl) (by rfl) ?_)
    refine i_nil ?_
    exact k_normal (y.1 + 1, g2) ⟨by omega, by omega, hg2⟩
  ·
    intro bD1 y hp
    obtain ⟨k, g⟩ := y
    simp only [ones, List.length_map] at hp
    obtain ⟨rfl, _, hg⟩ := hp
    dsimp only at hg ⊢
    refine c_seq ?_
    refine c_region ?_
    refine seqq (o_y (l1 Tryz.isAgg152 rfl (by rfl)) rfl ?_)
    refine seqq (o_y (y_assign rfl) rfl ?_)
    refine c_nil ?_
    refine c_ret ?_
    refine m_ret ?_
    refine c_mark (by rfl) ?_
    refine lm_of ?_
    refine c_done1 Tryz.results142 (.tmp rfl) (fun w hS => ?_)
    rw [List.take_length] at hg
    rw [List.take_length] at hS
    rw [List.take_length]
    exact ⟨_, ⟨g, by rw [wd_len], by rw [wd_len]; exact hg, rfl⟩, hS.fin (N := [g.seg 22 (Wd ws)])⟩

theorem slices_Collect0 (gf : FuncId) (caps : List Value) (ws : List (BitVec 32)) (N : List Seg) (hit : Iter Tryz.prog gf caps (ones ws) (Pts N)) (eg : ∀ args w, (callFunc gf args).run Tryz.prog w = .ok (.enter gf args) w) (hb : ws.length ≤ 1073741824) (w : World) (hw : Pts N w) :
    Quiet Tryz.prog 135 [.func (.func gf) #[] caps.toArray] (NewSl 22 (Wd ws)) w := by
  refine beginR Tryz.func135 rfl Tryz.ntmps135 rfl hw ?_
  refine c_seq ?_
  refine c_region ?_
  refine seqq (o_y (y_assign rfl) rfl ?_)
  refine c_nil ?_
  refine c_seq ?_
  refine c_region ?_
  refine seqq (o_y (y_move rfl) rfl ?_)
  refine seqq (o_newsl (T := 22) (cs := Wd ws) Tryz.call142 rfl rfl (fun w hw => slices_AppendSeq0 gf caps ws N hit eg hb w (fun p hp => hw p (by rw [List.flatten_append]; exact List.mem_append.2 (.inl hp)))) (fun g hg => ?_))
  refine seqq (o_y (y_assign rfl) rfl ?_)
  refine c_nil ?_
  refine c_ret ?_
  refine c_done1 Tryz.results135 (.tmp rfl) (fun w hS => ?_)
  exact ⟨_, ⟨g, rfl, hg, rfl⟩, hS.fin (N := [g.seg 22 (Wd ws)])⟩

theorem slices_Sorted0 (gf : FuncId) (caps : List Value) (ws : List (BitVec 32)) (N : List Seg) (hit : Iter Tryz.prog gf caps (ones ws) (Pts N)) (eg : ∀ args w, (callFunc gf args).run Tryz.prog w = .ok (.enter gf args) w) (hl : 1 ≤ ws.length) (hb : ws.length ≤ 12) (w : World) (hw : Pts N w) :
    Quiet Tryz.prog 122 [.func (.func gf) #[] caps.toArray] (fun u L => ∃ x : Nat × Nat × List Value, ws.length ≤ x.2.1 ∧ u = .slice (some ⟨x.1, 0, none⟩) ws.length x.2.1 ∧ L = [[(x.1, .cells (Wd (isortW ws (ws.length - 1)) ++ x.2.2).toArray 22 (0, 0))]]) w := by
  refine beginR Tryz.func122 rfl Tryz.ntmps122 rfl hw ?_
  refine c_seq ?_
  refine c_region ?_
  refine seqq (o_y (y_assign rfl) rfl ?_)
  refine c_nil ?_
  refine c_seq ?_
  refine c_region ?_
  refine seqq (o_y (y_move rfl) rfl ?_)
  refine seqq (o_newsl (T := 22) (cs := Wd ws) Tryz.call135 rfl rfl (fun w hw => slices_Collect0 gf caps ws N hit eg (by omega) w (fun p hp => hw p (by rw [List.flatten_append]; exact List.mem_append.2 (.inl hp)))) (fun g hg => ?_))
  refine j_vgC (T := 22) (m := ws.length) 5 g rfl hg (wd_len ws) (by omega) (fun b cap sp hc hsp => ?_)
  refine seqq (o_y (y_assign rfl) rfl ?_)
  refine c_nil ?_
  refine c_seq ?_
  refine c_region ?_
  refine seqq (o_y (y_move rfl) rfl ?_)
  refine seqq (o_own1 (X := Unit) (v := fun _ => .tuple #[]) (p := fun _ => True) [[(b, .cells (Wd (ws) ++ sp).toArray 22 (0, 0))]] (A := fun _ => [(b, .cells (Wd (isortW ws (ws.length - 1)) ++ sp).toArray 22 (0, 0))]) Tryz.call136 rfl rfl (fun w hw => (srt_Sort b cap ws sp hl hb w hw.noR).mono (fun e w2 h => by obtain ⟨v, h1, h2, h3⟩ := h; exact ⟨v, h1, (), trivial, h2, h3⟩)) (fun _ _ => ?_))
  refine c_nil ?_
  refine c_seq ?_
  refine c_region ?_
  refine seqq (o_y (y_move rfl) rfl ?_)
  refine seqq (o_y (y_assign rfl) rfl ?_)
  refine c_nil ?_
  refine c_ret ?_
  refine c_done1 Tryz.results122 (.tmp rfl) (fun w hS => ?_)
  exact ⟨_, ⟨(b, cap, sp), hc, rfl, rfl⟩, hS.fin (N := [[(b, .cells (Wd (isortW ws (ws.length - 1)) ++ sp).toArray 22 (0, 0))]])⟩

def medW (ws : List (BitVec 32)) : BitVec 32 := if ws.length = 0 then 0#32 else (isortW ws (ws.length - 1)).getD (ws.length / 2) 0#32

theorem adj_Median0 (g : VG) (ws : List (BitVec 32)) (hg : g.ok 1 ws.length (Wd ws)) (hb : ws.length ≤ 12) (w : World) (hw : Pts [g.seg 22 (Wd ws)] w) :
    Calls Tryz.prog 103 [g.val ws.length].toArray w (Ret fun u w' => u = bv .u32 (medW ws) ∧ Ext w w') := by
  refine beginR Tryz.func103 rfl Tryz.ntmps103 rfl hw ?_
  refine c_seq ?_
  refine c_region ?_
  refine seqq (o_y (y_assign (v := bv .u32 0#32) rfl) rfl ?_)
  refine c_nil ?_
  refine c_seq ?_
  refine c_seq ?_
  refine c_region ?_
  refine seqq (o_y (y_move rfl) rfl ?_)
  refine seqq (o_y (y_lenG Tryz.runUnderlying152 rfl hg) rfl ?_)
  refine seqq (o_y (y_eqlZ rfl rfl) rfl ?_)
  refine c_nil ?_
  refine c_if rfl (fun h5 => ?_) (fun h5 => ?_)
  ·
    refine c_seq ?_
    refine c_region ?_
    refine seqq (o_y (y_assign (v := bv .u32 0#32) rfl) rfl ?_)
    refine c_nil ?_
    refine c_ret ?_
    refine c_done1 Tryz.results103 (.tmp rfl) (fun w hS => ?_)
    exact ⟨by rw [medW, if_pos (by omega)], hS.none⟩
  ·
    refine c_skip ?_
    refine c_seq ?_
    refine c_region ?_
    refine seqq (o_y (y_move rfl) rfl ?_)
    refine seqq (o_new1 (X := Nat) (v := fun x => .func (.func 137) #[] [.pointer (some ⟨x, 0, none⟩)].toArray) (A := fun x => [(x, obj 152 [P1 (g.val ws.length) (vg_one _ _)])]) (p := fun _ => True) Tryz.call123 rfl rfl (fun w _ => slices_Values0 _ (vg_one _ _) w) (fun bx _ => ?_))
    refine seqq (o_new1 (X := Nat × Nat × List Value) (v := fun x => .slice (some ⟨x.1, 0, none⟩) ws.length x.2.1) (A := fun x => [(x.1, .cells (Wd (isortW ws (ws.length - 1)) ++ x.2.2).toArray 22 (0, 0))]) (p := fun x => ws.length ≤ x.2.1) Tryz.call122 rfl rfl (fun w hw => slices_Sorted0 137 _ ws [[(bx, obj 152 [P1 (g.val ws.length) (vg_one _ _)])], g.seg 22 (Wd ws)] (iter_Values bx g ws (by omega) hg) Tryz.call137 (by omega) hb w (fun p hp => hw p (by simp at hp ⊢; exact hp.symm))) (fun x hx => ?_))
    refine seqq (o_y (y_move rfl) rfl ?_)
    refine seqq (o_y (y_lenG Tryz.runUnderlying152 rfl hg) rfl ?_)
    refine seqq (o_y (y_quoI rfl rfl (by omega)) rfl ?_)
    refine seqq (o_y (y_indexAddrS Tryz.runUnderlying152 Tryz.sizeOf22 rfl rfl (by omega)) rfl ?_)
    refine seqq (o_y (lC Tryz.isAgg22 (ws.length / 2) rfl (by omega) (wd_get (by rw [isortW_len]; omega))) rfl ?_)
    refine seqq (o_y (y_assign rfl) rfl ?_)
    refine c_nil ?_
    refine c_ret ?_
    refine c_done1 Tryz.results103 (.tmp rfl) (fun w hS => ?_)
    exact ⟨by rw [medW, if_neg (by omega)], hS.none⟩
