/- Walks and laws of this claim, part Rd. -/
import Derived.Test.YtjoniieoaokimaaGreatVOct
set_option linter.unusedVariables false
set_option linter.unusedSimpArgs false
set_option linter.unusedSectionVars false
set_option autoImplicit true
set_option relaxedAutoImplicit true
set_option maxRecDepth 100000
set_option maxHeartbeats 1000000
namespace Go.Proofs
open V
/-! ### a reader -/
def rSeg (br : Nat) (a : Option Addr) (m c : Nat) (bad : Bool) : Seg := [(br, obj 180 [P1 (.slice a m c) rfl, P1 (.bool bad) rfl])]
def rOut (rest : List (BitVec 8)) (bad : Bool) (n : Nat) : List (BitVec 8) := if bad = true ∨ rest.length < n then [] else rest.take n
def rRest (rest : List (BitVec 8)) (bad : Bool) (n : Nat) : List (BitVec 8) := if bad = true ∨ rest.length < n then [] else rest.drop n
def rBad (rest : List (BitVec 8)) (bad : Bool) (n : Nat) : Bool := if bad = true ∨ rest.length < n then true else false
theorem slIn_len {w : World} {a : Option Addr} {m c : Nat} {cs : List Value} (h : SlIn w (.slice a m c) cs) : m = cs.length := by
  generalize hv : Value.slice a m c = v at h
  cases h with
  | nil => cases hv; rfl
  | blk hc hb hl => cases hv; rfl

theorem oct_Wrong (br : Nat) (a : Option Addr) (m c : Nat) (bad : Bool) (w : World) (hw : Pts [rSeg br a m c bad] w) :
    Calls Tryz.prog 116 [.pointer (some ⟨br, 0, none⟩)].toArray w (Ret fun u w' => u = .bool bad ∧ Ext w w') := by
  refine beginR Tryz.func116 rfl Tryz.ntmps116 rfl hw ?_
  change J _ _ _ ⟨_, _, ([(br, obj 180 [P1 (.slice a m c) rfl, P1 (.bool bad) rfl])] :: _)⟩ _ _
  refine c_seq ?_
  refine c_region ?_
  refine seqq (o_y (y_assign rfl) rfl ?_)
  refine c_nil ?_
  refine c_seq ?_
  refine c_region ?_
  refine seqq (o_y (y_move rfl) rfl ?_)
  refine seqq (o_y (y_eqlNilPk (v := false) Tryz.runUnderlying158 rfl rfl rfl) rfl ?_)
  refine seqq (o_y (y_move rfl) rfl ?_)
  refine seqq (guard_true rfl rfl (o_y (y_move rfl) rfl ?_))
  refine seqq (guard_true rfl rfl (o_y (y_nilCheck rfl) rfl ?_))
  refine seqq (guard_true rfl rfl (o_y (y_fieldAddr Tryz.runUnderlying180 rfl Tryz.sizeOf4 rfl rfl) rfl ?_))
  refine seqq (guard_true rfl rfl (o_y (l1 Tryz.isAgg4 rfl (by rfl)) rfl ?_))
  refine seqq (o_y (y_pick_f rfl rfl) rfl ?_)
  refine seqq (o_y (y_assign rfl) rfl ?_)
  refine c_nil ?_
  refine c_ret ?_
  refine c_done1 Tryz.results116 (.tmp rfl) (fun w hS => ?_)
  exact ⟨rfl, hS.none⟩

theorem oct_fail (br : Nat) (a : Option Addr) (m c : Nat) (bad : Bool) (w : World) (hSt : St w (dom [rSeg br a m c bad]) [] [rSeg br a m c bad] w) :
    Calls Tryz.prog 114 [.pointer (some ⟨br, 0, none⟩)].toArray w (Ret fun u w' => u = .tuple #[] ∧ St w (dom [rSeg br a m c bad]) [] [rSeg br none 0 0 true] w') := by
  refine begin_ Tryz.func114 rfl Tryz.ntmps114 rfl hSt ?_
  change J _ _ _ _ ([(br, obj 180 [P1 (.slice a m c) rfl, P1 (.bool bad) rfl])] :: _) _
  refine c_seq ?_
  refine c_region ?_
  refine seqq (o_y (y_move rfl) rfl ?_)
  refine seqq (o_y (y_neqNilPk (v := true) Tryz.runUnderlying158 rfl rfl rfl) rfl ?_)
  refine c_nil ?_
  refine c_condT rfl ?_
  refine c_region ?_
  refine seqq (o_y (y_move rfl) rfl ?_)
  refine seqq (o_y (y_move rfl) rfl ?_)
  refine seqq (o_y (y_nilCheck rfl) rfl ?_)
  refine seqq (o_y (y_fieldAddr Tryz.runUnderlying180 rfl Tryz.sizeOf4 rfl rfl) rfl ?_)
  refine seqq (st1 (v := .bool true) (h1 := rfl) Tryz.sizeOf4 rfl rfl (by rfl) (by rfl) ?_)
  refine seqq (o_y (y_nilCheck rfl) rfl ?_)
  refine seqq (o_y (y_fieldAddr Tryz.runUnderlying180 rfl Tryz.sizeOf36 rfl rfl) rfl ?_)
  refine seqq (st1 (v := .slice none 0 0) (h1 := rfl) Tryz.sizeOf36 rfl rfl (by rfl) (by rfl) ?_)
  refine c_nil ?_
  refine c_end ?_
  refine c_done0 Tryz.results114  (fun w hS => ?_)
  exact ⟨rfl, hS.fin (N := [[(br, obj 180 [P1 (.slice none 0 0) rfl, P1 (.bool true) rfl])]])⟩

theorem oct_RawR (br : Nat) (a : Option Addr) (m c : Nat) (bad : Bool) (rest : List (BitVec 8)) (n : Nat) (h1 : 1 ≤ n) (hn : n ≤ 1073741824) (Rd : List Seg) (hv : ∀ w, Pts Rd w → SlIn w (.slice a m c) (By rest)) (w : World)
    (hSt : St w (dom [rSeg br a m c bad]) Rd [rSeg br a m c bad] w) :
    Calls Tryz.prog 93 [.pointer (some ⟨br, 0, none⟩), vI (n : Int)].toArray w (Ret fun u w' => ∃ x : VG × Option Addr × Nat × Nat,
      (x.1.ok 1 (rOut rest bad n).length (By (rOut rest bad n)) ∧ ∀ w, Pts Rd w → SlIn w (.slice x.2.1 x.2.2.1 x.2.2.2) (By (rRest rest bad n))) ∧ u = x.1.val (rOut rest bad n).length ∧
      St w (dom [rSeg br a m c bad]) [] [rSeg br x.2.1 x.2.2.1 x.2.2.2 (rBad rest bad n), x.1.seg 5 (By (rOut rest bad n))] w') := by
  obtain rfl : m = rest.length := by rw [slIn_len (hv w hSt.rd)]; simp
  refine begin_ Tryz.func93 rfl Tryz.ntmps93 rfl hSt ?_
  change J _ _ _ _ ([(br, obj 180 [P1 (.slice a rest.length c) rfl, P1 (.bool bad) rfl])] :: _) _
  refine c_seq ?_
  refine c_region ?_
  refine seqq (o_y (y_assign rfl) rfl ?_)
  refine c_nil ?_
  refine c_seq ?_
  refine c_seq ?_
  refine c_region ?_
  refine seqq (o_y (y_move rfl) rfl ?_)
  refine seqq (o_pureS Tryz.call116 rfl (fun w hw => oct_Wrong br a rest.length c bad w (fun p hp => hw p (by simp [rSeg] at hp; simp [hp]))) rfl ?_)
  refine seqq (o_y (y_move rfl) rfl ?_)
  refine j_bool 8 rfl (fun h8 => ?_) (fun h8 => ?_)
  ·
    subst h8
    have hb : true = true ∨ rest.length < n := .inl rfl
    have e1 : rOut rest true n = [] := if_pos hb
    have e2 : rRest rest true n = [] := if_pos hb
    have e3 : rBad rest true n = true := if_pos hb
    refine seqq (guard_false (c := true) rfl rfl rfl rfl ?_)
    refine seqq (guard_false (c := true) rfl rfl rfl rfl ?_)
    refine seqq (o_y (y_pick_t rfl rfl) rfl ?_)
    refine seqq (o_y (y_move rfl) rfl ?_)
    refine seqq (guard_false (c := true) rfl rfl rfl rfl ?_)
    refine seqq (guard_false (c := true) rfl rfl rfl rfl ?_)
    refine seqq (guard_false (c := true) rfl rfl rfl rfl ?_)
    refine seqq (guard_false (c := true) rfl rfl rfl rfl ?_)
    refine seqq (guard_false (c := true) rfl rfl rfl rfl ?_)
    refine seqq (guard_false (c := true) rfl rfl rfl rfl ?_)
    refine seqq (guard_false (c := true) rfl rfl rfl rfl ?_)
    refine seqq (o_y (y_pick_t rfl rfl) rfl ?_)
    refine c_nil ?_
    refine c_condT rfl ?_
    refine c_seq ?_
    refine c_region ?_
    refine seqq (o_y (y_move rfl) rfl ?_)
    refine seqq (o_own1 (X := Unit) (v := fun _ => .tuple #[]) (p := fun _ => True) [[(br, obj 180 [P1 (.slice a rest.length c) rfl, P1 (.bool true) rfl])]] (A := fun _ => [(br, obj 180 [P1 (.slice none 0 0) rfl, P1 (.bool true) rfl])]) Tryz.call114 rfl rfl (fun w hw => (oct_fail br a rest.length c true w hw.noR).mono (fun e w2 h => by obtain ⟨v, h1, h2, h3⟩ := h; exact ⟨v, h1, (), trivial, h2, h3⟩)) (fun _ _ => ?_))
    refine c_nil ?_
    refine c_seq ?_
    refine c_region ?_
    refine seqq (o_y (y_assign rfl) rfl ?_)
    refine c_nil ?_
    refine c_ret ?_
    refine c_done1 Tryz.results93 (.tmp rfl) (fun w hS => ?_)
    rw [e1, e2, e3]
    exact ⟨(.nil, none, 0, 0), ⟨⟨rfl, rfl⟩, fun _ _ => .nil⟩, rfl, (hS.fin (N := [[(br, obj 180 [P1 (.slice none 0 0) rfl, P1 (.bool true) rfl])]])).drop (by simp [rSeg, VG.seg])⟩
  ·
    subst h8
    refine seqq (guard_true rfl rfl (o_y (y_move rfl) rfl ?_))
    refine seqq (guard_true rfl rfl (o_y (y_lssZ rfl rfl) rfl ?_))
    refine j_re 10 rfl (V.decF (by omega)) ?_
    refine seqq (o_y (y_pick_f rfl rfl) rfl ?_)
    refine seqq (o_y (y_move rfl) rfl ?_)
    refine seqq (guard_true rfl rfl (o_y (y_move rfl) rfl ?_))
    refine seqq (guard_true rfl rfl (o_y (y_move rfl) rfl ?_))
    refine seqq (guard_true rfl rfl (o_y (y_nilCheck rfl) rfl ?_))
    refine seqq (guard_true rfl rfl (o_y (y_fieldAddr Tryz.runUnderlying180 rfl Tryz.sizeOf36 rfl rfl) rfl ?_))
    refine seqq (guard_true rfl rfl (o_y (l1 Tryz.isAgg36 rfl (by rfl)) rfl ?_))
    refine seqq (guard_true rfl rfl (o_y (y_len (tys := #[]) Tryz.runUnderlying36 rfl) rfl ?_))
    refine seqq (guard_true rfl rfl (o_y (y_gtrZ rfl rfl) rfl ?_))
    refine seqq (o_y (y_pick_f rfl rfl) rfl ?_)
    refine c_nil ?_
    refine c_if rfl (fun h20 => ?_) (fun h20 => ?_)
    ·
      have hb : false = true ∨ rest.length < n := .inr (by omega)
      have e1 : rOut rest false n = [] := if_pos hb
      have e2 : rRest rest false n = [] := if_pos hb
      have e3 : rBad rest false n = true := if_pos hb
      refine c_seq ?_
      refine c_region ?_
      refine seqq (o_y (y_move rfl) rfl ?_)
      refine seqq (o_own1 (X := Unit) (v := fun _ => .tuple #[]) (p := fun _ => True) [[(br, obj 180 [P1 (.slice a rest.length c) rfl, P1 (.bool false) rfl])]] (A := fun _ => [(br, obj 180 [P1 (.slice none 0 0) rfl, P1 (.bool true) rfl])]) Tryz.call114 rfl rfl (fun w hw => (oct_fail br a rest.length c false w hw.noR).mono (fun e w2 h => by obtain ⟨v, h1, h2, h3⟩ := h; exact ⟨v, h1, (), trivial, h2, h3⟩)) (fun _ _ => ?_))
      refine c_nil ?_
      refine c_seq ?_
      refine c_region ?_
      refine seqq (o_y (y_assign rfl) rfl ?_)
      refine c_nil ?_
      refine c_ret ?_
      refine c_done1 Tryz.results93 (.tmp rfl) (fun w hS => ?_)
      rw [e1, e2, e3]
      exact ⟨(.nil, none, 0, 0), ⟨⟨rfl, rfl⟩, fun _ _ => .nil⟩, rfl, (hS.fin (N := [[(br, obj 180 [P1 (.slice none 0 0) rfl, P1 (.bool true) rfl])]])).drop (by simp [rSeg, VG.seg])⟩
    ·
      obtain ⟨b, off, rfl, _, hc⟩ := slIn_some (hv w hSt.rd) (by intro h0; have := congrArg List.length h0; simp at this; subst this; simp at h20; omega)
      have hb : ¬ (false = true ∨ rest.length < n) := by
        rintro (h | h)
        · cases h
        · omega
      have e1 : rOut rest false n = rest.take n := if_neg hb
      have e2 : rRest rest false n = rest.drop n := if_neg hb
      have e3 : rBad rest false n = false := if_neg hb
      rw [by_len] at hc
      refine c_skip ?_
      refine c_seq ?_
      refine c_region ?_
      refine seqq (o_y (y_move rfl) rfl ?_)
      refine seqq (o_y (y_nilCheck rfl) rfl ?_)
      refine seqq (o_y (y_fieldAddr Tryz.runUnderlying180 rfl Tryz.sizeOf36 rfl rfl) rfl ?_)
      refine seqq (o_y (l1 Tryz.isAgg36 rfl (by rfl)) rfl ?_)
      refine seqq (o_y (y_move rfl) rfl ?_)
      refine seqq (o_y (y_sliceHi (hi := n) Tryz.runUnderlying36 Tryz.sizeOf5 rfl rfl rfl (by omega)) rfl ?_)
      refine seqq (o_newsl (T := 5) (cs := By (rest.take n)) Tryz.call95 rfl rfl (fun w hw => slices_Clone (slIn_take n (hv w (fun p hp => hw p (by rw [List.flatten_append]; exact List.mem_append.2 (.inl hp)))) (by omega)) (by_one _) (by rw [by_len, List.length_take]; omega)) (fun g2 hg2 => ?_))
      refine seqq (o_y (y_assign rfl) rfl ?_)
      refine c_nil ?_
      refine c_seq ?_
      refine c_region ?_
      refine seqq (o_y (y_move rfl) rfl ?_)
      refine seqq (o_y (y_move rfl) rfl ?_)
      refine seqq (o_y (y_nilCheck rfl) rfl ?_)
      refine seqq (o_y (y_fieldAddr Tryz.runUnderlying180 rfl Tryz.sizeOf36 rfl rfl) rfl ?_)
      refine seqq (o_y (l1 Tryz.isAgg36 rfl (by rfl)) rfl ?_)
      refine seqq (o_y (y_move rfl) rfl ?_)
      refine seqq (o_y (y_sliceLo (lo := n) Tryz.runUnderlying36 Tryz.sizeOf5 rfl rfl rfl (by omega)) rfl ?_)
      refine seqq (o_y (y_nilCheck rfl) rfl ?_)
      refine seqq (o_y (y_fieldAddr Tryz.runUnderlying180 rfl Tryz.sizeOf36 rfl rfl) rfl ?_)
      refine seqq (st1 (h1 := rfl) Tryz.sizeOf36 rfl rfl (by rfl) (by rfl) ?_)
      refine c_nil ?_
      refine c_seq ?_
      refine c_region ?_
      refine seqq (o_y (y_move rfl) rfl ?_)
      refine seqq (o_y (y_assign rfl) rfl ?_)
      refine c_nil ?_
      refine c_ret ?_
      refine c_done1 Tryz.results93 (.tmp rfl) (fun w hS => ?_)
      rw [e1, e2, e3]
      rw [by_len] at hg2 ⊢
      exact ⟨(g2, some ⟨b, soff off n c 1, none⟩, rest.length - n, c - n), ⟨hg2, fun w hw => slIn_drop n (hv w hw) (by omega)⟩, rfl, hS.fin (N := [[(br, obj 180 [P1 (.slice (some ⟨b, soff off n c 1, none⟩) (rest.length - n) (c - n)) rfl, P1 (.bool false) rfl])], g2.seg 5 (By (rest.take n))])⟩

theorem oct_Read (bs : List (BitVec 8)) (hb : bs.length ≤ 1073741824) (v : Value) (Rd : List Seg) (hv : ∀ w, Pts Rd w → SlIn w v (By bs)) (w : World) (hw : Pts Rd w) :
    Quiet Tryz.prog 90 [v] (fun u L => ∃ x : Nat × VG, x.2.ok 1 bs.length (By bs) ∧ u = .pointer (some ⟨x.1, 0, none⟩) ∧ L = [[(x.1, obj 180 [P1 (x.2.val bs.length) (vg_one _ _), P1 (.bool false) rfl])], x.2.seg 5 (By bs)]) w := by
  refine beginR Tryz.func90 rfl Tryz.ntmps90 rfl hw ?_
  refine c_seq ?_
  refine c_region ?_
  refine seqq (o_y (y_assign rfl) rfl ?_)
  refine c_nil ?_
  refine c_seq ?_
  refine c_region ?_
  refine seqq (o_y (y_move rfl) rfl ?_)
  refine seqq (o_newsl (T := 5) (cs := By bs) Tryz.call95 rfl rfl (fun w hw => slices_Clone (hv w (fun p hp => hw p (by rw [List.flatten_append]; exact List.mem_append.2 (.inl hp)))) (by_one _) (by rw [by_len]; omega)) (fun g2 hg2 => ?_))
  refine seqq (o_y (y_build (zs := [P1 (.slice none 0 0) rfl, P1 (.bool false) rfl]) (pl := [(0, 1), (1, 1)]) Tryz.runUnderlying180 Tryz.zeroValue180 (by kernel_rfl) (fun w => by kernel_rfl) (.one rfl (vg_one _ _) .nil) (by rfl)) rfl ?_)
  refine seqq (o_box (T := 180) rfl (IsP.agg).cells rfl (fun b6 => ?_))
  refine seqq (o_y (y_assign rfl) rfl ?_)
  refine c_nil ?_
  refine c_ret ?_
  rw [by_len] at hg2 ⊢
  refine c_done1 Tryz.results90 (.tmp rfl) (fun w hS => ?_)
  exact ⟨_, ⟨(b6, g2), hg2, rfl, rfl⟩, hS.fin (N := [[(b6, obj 180 [P1 (g2.val bs.length) (vg_one _ _), P1 (.bool false) rfl])], g2.seg 5 (By bs)])⟩

theorem oct_End (br : Nat) (a : Option Addr) (m c : Nat) (bad : Bool) (w : World) (hw : Pts [rSeg br a m c bad] w) :
    Calls Tryz.prog 94 [.pointer (some ⟨br, 0, none⟩)].toArray w (Ret fun u w' => u = .bool (!bad && decide (m = 0)) ∧ Ext w w') := by
  refine beginR Tryz.func94 rfl Tryz.ntmps94 rfl hw ?_
  change J _ _ _ ⟨_, _, ([(br, obj 180 [P1 (.slice a m c) rfl, P1 (.bool bad) rfl])] :: _)⟩ _ _
  refine c_seq ?_
  refine c_region ?_
  refine seqq (o_y (y_assign rfl) rfl ?_)
  refine c_nil ?_
  refine c_seq ?_
  refine c_region ?_
  refine seqq (o_y (y_move rfl) rfl ?_)
  refine seqq (o_pureS Tryz.call116 rfl (fun w hw => oct_Wrong br a m c bad w (fun p hp => hw p (by simp [rSeg] at hp; simp [hp]))) rfl ?_)
  refine seqq (o_y (y_not rfl) rfl ?_)
  refine seqq (o_y (y_move rfl) rfl ?_)
  refine j_bool 6 rfl (fun h6 => ?_) (fun h6 => ?_)
  ·
    have h6x : bad = false := by cases bad <;> simp_all
    refine seqq (guard_true rfl rfl (o_y (y_move rfl) rfl ?_))
    refine seqq (guard_true rfl rfl (o_y (y_nilCheck rfl) rfl ?_))
    refine seqq (guard_true rfl rfl (o_y (y_fieldAddr Tryz.runUnderlying180 rfl Tryz.sizeOf36 rfl rfl) rfl ?_))
    refine seqq (guard_true rfl rfl (o_y (l1 Tryz.isAgg36 rfl (by rfl)) rfl ?_))
    refine seqq (guard_true rfl rfl (o_y (y_len (tys := #[]) Tryz.runUnderlying36 rfl) rfl ?_))
    refine seqq (guard_true rfl rfl (o_y (y_eqlZ rfl rfl) rfl ?_))
    refine seqq (o_y (y_pick_t rfl rfl) rfl ?_)
    refine seqq (o_y (y_assign rfl) rfl ?_)
    refine c_nil ?_
    refine c_ret ?_
    refine c_done1 Tryz.results94 (.tmp rfl) (fun w hS => ?_)
    exact ⟨by rw [h6x]; congr 1; simp, hS.none⟩
  ·
    have h6x : bad = true := by cases bad <;> simp_all
    refine seqq (guard_false (c := false) rfl rfl rfl rfl ?_)
    refine seqq (guard_false (c := false) rfl rfl rfl rfl ?_)
    refine seqq (guard_false (c := false) rfl rfl rfl rfl ?_)
    refine seqq (guard_false (c := false) rfl rfl rfl rfl ?_)
    refine seqq (guard_false (c := false) rfl rfl rfl rfl ?_)
    refine seqq (guard_false (c := false) rfl rfl rfl rfl ?_)
    refine seqq (o_y (y_pick_f rfl rfl) rfl ?_)
    refine seqq (o_y (y_assign rfl) rfl ?_)
    refine c_nil ?_
    refine c_ret ?_
    refine c_done1 Tryz.results94 (.tmp rfl) (fun w hS => ?_)
    exact ⟨by rw [h6x]; rfl, hS.none⟩

theorem slices_Backward0 (a : Value) (h1 : one1 a = true) (w : World) : Quiet Tryz.prog 115 [a] (fun u L => ∃ x : Nat, True ∧ u = .func (.func 128) #[] [.pointer (some ⟨x, 0, none⟩)].toArray ∧ L = [[(x, obj 36 [P1 a h1])]]) w := by
  refine begin0 Tryz.func115 rfl Tryz.ntmps115 rfl ?_
  refine c_seq ?_
  refine c_region ?_
  refine seqq (o_box (T := 36) rfl (IsP.one h1).cells rfl (fun b1 => ?_))
  refine seqq (o_y (y_assign rfl) rfl ?_)
  refine c_nil ?_
  refine c_seq ?_
  refine c_region ?_
  refine seqq (o_y (y_makeFunc rfl) rfl ?_)
  refine seqq (o_y (y_assign rfl) rfl ?_)
  refine c_nil ?_
  refine c_ret ?_
  refine c_done1 Tryz.results115 (.tmp rfl) (fun w hS => ?_)
  exact ⟨_, ⟨b1, trivial, rfl, rfl⟩, hS.fin (N := [[(b1, obj 36 [P1 a h1])]])⟩

def backs (bs : List (BitVec 8)) : List (List Value) := (List.range bs.length).map fun (k : Nat) => [vI ((bs.length : Int) - 1 - (k : Int)), bv .u8 (bs.getD (bs.length - 1 - k) 0#8)]

theorem iter_Backward_blk (b1 : Nat) (b cap : Nat) (bs : List (BitVec 8)) (sp : List Value) (hb : bs.length ≤ 1073741824) :
    Iter Tryz.prog 128 [.pointer (some ⟨b1, 0, none⟩)] (backs bs) (Pts [[(b1, obj 36 [P1 (.slice (some ⟨b, 0, none⟩) bs.length cap) rfl])], [(b, .cells (By bs ++ sp).toArray 5 (0, 0))]]) := by
  intro l I X hSS hEE hXX hRR w h0
  refine beginR Tryz.func128 rfl Tryz.ntmps128 rfl (Rd := [[(b1, obj 36 [P1 (.slice (some ⟨b, 0, none⟩) bs.length cap) rfl])], [(b, .cells (By bs ++ sp).toArray 5 (0, 0))]]) (hSS 0 w h0) ?_
  refine c_seq ?_
  refine c_region ?_
  refine seqq (o_y (l1 Tryz.isAgg36 rfl (by rfl)) rfl ?_)
  refine seqq (o_y (y_len (tys := #[]) Tryz.runUnderlying36 rfl) rfl ?_)
  refine seqq (o_y (y_subI rfl rfl (by omega)) rfl ?_)
  refine j_re 6 rfl (show _ = vI ((bs.length : Int) - 1 - ((0 : Nat) : Int)) from by congr 1; omega) ?_
  refine seqq (o_y (y_assign rfl) rfl ?_)
  refine c_nil ?_
  refine c_block ?_
  refine c_rounds (X := Nat) (Rd := [[(b1, obj 36 [P1 (.slice (some ⟨b, 0, none⟩) bs.length cap) rfl])], [(b, .cells (By bs ++ sp).toArray 5 (0, 0))]]) (fun x => [(0, .func (.yield l) #[] #[]), (1, .pointer (some ⟨b1, 0, none⟩)), (3, vI ((bs.length : Int) - 1 - (x : Int)))]) (fun x w => x ≤ bs.length ∧ I x w) (fun x => bs.length - x) 0 (fun w hS => ⟨Nat.zero_le _, hEE 0 _ _ hS.none h0⟩) (fun x w hp => hSS _ _ hp.2) ⟨rfl, rfl, rfl, trivial⟩ ?_
  intro x w hp
  refine c_seq ?_
  refine c_seq ?_
  refine c_region ?_
  refine seqq (o_y (y_move rfl) rfl ?_)
  refine seqq (o_y (y_geqZ rfl rfl) rfl ?_)
  refine c_nil ?_
  refine c_if rfl (fun h8 => ?_) (fun h8 => ?_)
  ·
    refine c_skip ?_
    refine c_seq ?_
    refine c_block ?_
    refine c_seq ?_
    refine c_regionI ?_
    refine i_op rfl (o_y (y_move rfl) rfl ?_)
    refine i_op rfl (o_y (y_move rfl) rfl ?_)
    refine i_op rfl (o_y (l1 Tryz.isAgg36 rfl (by rfl)) rfl ?_)
    refine i_op rfl (o_y (y_move rfl) rfl ?_)
    refine i_op rfl (o_y (y_indexAddrS Tryz.runUnderlying36 Tryz.sizeOf5 rfl rfl (by omega)) rfl ?_)
    refine i_op rfl (o_y (lC (v := bv .u8 (bs.getD (bs.length - 1 - x) 0#8)) Tryz.isAgg5 (bs.length - 1 - x) rfl (by omega) (by rw [List.getElem?_append_left (by simp; omega), by_get (by omega)])) rfl ?_)
    refine i_yieldI (k := x) rfl rfl rfl (fun w2 hw => hEE x _ _ hw.none hp.2) (fun w2 hw => hRR x w2 _ (by simp only [backs]; rw [List.getElem?_map, List.getElem?_range (by omega)]; rfl) hw) (fun w2 hw => hSS (x + 1) w2 hw) (fun w2 hI2 => ?_) (fun w2 hX2 => ?_)
    ·
      refine i_op rfl (o_y (y_not (b := true) rfl) rfl ?_)
      refine i_nil ?_
      refine c_condF rfl ?_
      refine c_skip ?_
      refine c_region ?_
      refine seqq (o_y (y_move rfl) rfl ?_)
      refine seqq (o_y (y_subI rfl rfl (by omega)) rfl ?_)
      refine j_re 10 rfl (show _ = vI ((bs.length : Int) - 1 - ((x + 1 : Nat) : Int)) from by congr 1; omega) ?_
      refine seqq (o_y (y_assign rfl) rfl ?_)
      refine c_nil ?_
      exact c_rounded (x + 1) (fun w hw => ⟨by omega, hEE _ _ _ hw.none hI2⟩) (by omega) ⟨rfl, rfl, rfl, trivial⟩
    ·
      refine i_op rfl (o_y (y_not (b := false) rfl) rfl ?_)
      refine i_nil ?_
      refine c_condT rfl ?_
      refine c_ret ?_
      refine c_done0 Tryz.results128  (fun w hS => ?_)
      exact .inr (hXX _ _ hS.none hX2)
  ·
    refine c_exit ?_
    refine c_end ?_
    refine c_done0 Tryz.results128  (fun w hS => ?_)
    have hx : x = bs.length := by omega
    subst hx
    exact .inl (by simp only [backs, List.length_map, List.length_range]; exact hEE _ _ _ hS.none hp.2)

theorem iter_Backward_nil (b1 : Nat)  :
    Iter Tryz.prog 128 [.pointer (some ⟨b1, 0, none⟩)] (backs []) (Pts [[(b1, obj 36 [P1 (.slice none 0 0) rfl])], []]) := by
  intro l I X hSS hEE hXX hRR w h0
  refine beginR Tryz.func128 rfl Tryz.ntmps128 rfl (Rd := [[(b1, obj 36 [P1 (.slice none 0 0) rfl])], []]) (hSS 0 w h0) ?_
  refine c_seq ?_
  refine c_region ?_
  refine seqq (o_y (l1 Tryz.isAgg36 rfl (by rfl)) rfl ?_)
  refine seqq (o_y (y_len (tys := #[]) Tryz.runUnderlying36 rfl) rfl ?_)
  refine seqq (o_y (y_subI rfl rfl (by omega)) rfl ?_)
  refine seqq (o_y (y_assign rfl) rfl ?_)
  refine c_nil ?_
  refine c_block ?_
  refine c_loop 1 ?_
  refine c_round ?_
  refine c_seq ?_
  refine c_seq ?_
  refine c_region ?_
  refine seqq (o_y (y_move rfl) rfl ?_)
  refine seqq (o_y (y_geqZ rfl rfl) rfl ?_)
  refine j_re 8 rfl (V.decF (by decide)) ?_
  refine c_nil ?_
  refine c_condF rfl ?_
  refine c_exit ?_
  refine c_end ?_
  refine c_done0 Tryz.results128  (fun w hS => ?_)
  exact .inl (hEE 0 _ _ hS.none h0)

theorem iter_Backward (b1 : Nat) (g : VG) (bs : List (BitVec 8)) (hb : bs.length ≤ 1073741824) (hok : g.ok 1 bs.length (By bs)) :
    Iter Tryz.prog 128 [.pointer (some ⟨b1, 0, none⟩)] (backs bs) (Pts [[(b1, obj 36 [P1 (g.val bs.length) (vg_one _ _)])], g.seg 5 (By bs)]) := by
  cases g with
  | nil =>
    have : bs = [] := List.eq_nil_of_length_eq_zero hok.1
    subst this
    exact iter_Backward_nil b1
  | blk b cap sp => exact iter_Backward_blk b1 b cap bs sp hb

def getV (bs : List (BitVec 8)) : BitVec 64 := bs.foldr (fun b x => (x <<< 8) ||| b.setWidth 64) 0#64
theorem getV_step (bs : List (BitVec 8)) (j : Nat) (h : j < bs.length) : (getV (bs.drop (j + 1)) <<< 8) ||| (bs.getD j 0#8).setWidth 64 = getV (bs.drop j) := by
  have : bs.getD j 0#8 = bs[j] := by simp [List.getD, List.getElem?_eq_getElem h]
  rw [List.drop_eq_getElem_cons h, this]
  rfl

theorem oct_Get4 (br : Nat) (a : Option Addr) (m c : Nat) (bad : Bool) (rest : List (BitVec 8)) (hrest : rest.length ≤ 1073741824) (Rd : List Seg) (hv : ∀ w, Pts Rd w → SlIn w (.slice a m c) (By rest)) (w : World)
    (hSt : St w (dom [rSeg br a m c bad]) Rd [rSeg br a m c bad] w) :
    Calls Tryz.prog 91 [.pointer (some ⟨br, 0, none⟩), vI 4].toArray w (Ret fun u w' => ∃ x : Option Addr × Nat × Nat,
      (∀ w, Pts Rd w → SlIn w (.slice x.1 x.2.1 x.2.2) (By (rRest rest bad 4))) ∧ u = bv .u64 (getV (rOut rest bad 4)) ∧
      St w (dom [rSeg br a m c bad]) [] [rSeg br x.1 x.2.1 x.2.2 (rBad rest bad 4)] w') := by
  have hol : (rOut rest bad 4).length ≤ 1073741824 := by unfold rOut; split <;> simp <;> omega
  refine beginM_ Tryz.func91 rfl Tryz.ntmps91 rfl hSt ?_
  change J _ _ _ _ ([(br, obj 180 [P1 (.slice a m c) rfl, P1 (.bool bad) rfl])] :: _) _
  refine c_seq ?_
  refine c_region ?_
  refine seqq (o_y (y_assign (v := bv .u64 0#64) rfl) rfl ?_)
  refine c_nil ?_
  refine c_seq ?_
  refine c_seq ?_
  refine c_region ?_
  refine seqq (o_y (y_move rfl) rfl ?_)
  refine seqq (o_y (y_binZ (v := .bool true) rfl rfl (fun _ => by rfl)) rfl ?_)
  refine seqq (o_y (y_move rfl) rfl ?_)
  refine seqq (guard_true rfl rfl (o_y (y_move rfl) rfl ?_))
  refine seqq (guard_true rfl rfl (o_y (y_binZ (v := .bool true) rfl rfl (fun _ => by rfl)) rfl ?_))
  refine seqq (o_y (y_pick_t rfl rfl) rfl ?_)
  refine seqq (o_y (y_move rfl) rfl ?_)
  refine seqq (guard_true rfl rfl (o_y (y_move rfl) rfl ?_))
  refine seqq (guard_true rfl rfl (o_y (y_binZ (v := .bool false) rfl rfl (fun _ => by rfl)) rfl ?_))
  refine seqq (o_y (y_pick_t rfl rfl) rfl ?_)
  refine seqq (o_y (y_move rfl) rfl ?_)
  refine seqq (guard_false (c := false) rfl rfl rfl rfl ?_)
  refine seqq (guard_false (c := false) rfl rfl rfl rfl ?_)
  refine seqq (o_y (y_pick_f rfl rfl) rfl ?_)
  refine c_nil ?_
  refine c_condF rfl ?_
  refine c_skip ?_
  refine c_seq ?_
  refine c_region ?_
  refine seqq (o_alloc (ps := [P1 (bv .u64 0#64)]) Tryz.zeroValue49 (by kernel_rfl) rfl (fun b5 => ?_))
  refine c_nil ?_
  refine c_seq ?_
  refine c_seq ?_
  refine c_region ?_
  refine seqq (o_y (y_move rfl) rfl ?_)
  refine seqq (o_y (y_move rfl) rfl ?_)
  refine seqq (o_own2 (X := VG × Option Addr × Nat × Nat) (v := fun x => x.1.val (rOut rest bad 4).length) (p := fun x => x.1.ok 1 (rOut rest bad 4).length (By (rOut rest bad 4)) ∧ ∀ w, Pts Rd w → SlIn w (.slice x.2.1 x.2.2.1 x.2.2.2) (By (rRest rest bad 4))) [[(br, obj 180 [P1 (.slice a m c) rfl, P1 (.bool bad) rfl])]] (A := fun x => [(br, obj 180 [P1 (.slice x.2.1 x.2.2.1 x.2.2.2) rfl, P1 (.bool (rBad rest bad 4)) rfl])]) (B := fun x => x.1.seg 5 (By (rOut rest bad 4))) Tryz.call93 rfl rfl (fun w hw => (oct_RawR br a m c bad rest 4 (by decide) (by decide) Rd hv w (hw.lessR (fun p hp => by rw [List.flatten_append]; exact List.mem_append.2 (.inl hp)))).mono (fun e w2 h => by obtain ⟨v, h1, x, h2, h3, h4⟩ := h; exact ⟨v, h1, x, h2, h3, h4⟩)) (fun ⟨g, a2, m2, c2⟩ ⟨hg, hv2⟩ => ?_))
  dsimp only at hg hv2 ⊢
  refine seqq (o_new1 (X := Nat) (v := fun x => .func (.func 128) #[] [.pointer (some ⟨x, 0, none⟩)].toArray) (A := fun x => [(x, obj 36 [P1 (g.val (rOut rest bad 4).length) (vg_one _ _)])]) (p := fun _ => True) Tryz.call115 rfl rfl (fun w _ => slices_Backward0 _ (vg_one _ _) w) (fun bx _ => ?_))
  refine j_obj b5 (ps' := [P1 (bv .u64 (getV ((rOut rest bad 4).drop ((rOut rest bad 4).length - 0)))) rfl]) (by rw [Nat.sub_zero, List.drop_length]; rfl) (by rfl) ?_
  refine c_nil ?_
  refine c_block ?_
  refine c_rangeK (X := Nat) (Z := Empty) [0, 5] [br, bx] rfl (fun Mk y => [(b5, obj 49 [P1 (bv .u64 (getV ((rOut rest bad 4).drop ((rOut rest bad 4).length - y)))) rfl])] :: g.seg 5 (By (rOut rest bad 4)) :: Mk) (fun k y => y = k ∧ k ≤ (rOut rest bad 4).length) (fun _ z => nomatch z) (fun _ z => nomatch z) (fun Ek vs => (7, vs.getD 1 undef) :: Ek) 0 ⟨rfl, Nat.zero_le _⟩ rfl Tryz.call128 (iter_Backward bx g (rOut rest bad 4) hol hg) (fun k y w hp hS => ptsM hS) (by simp [backs]) rfl ?_ ?_ ?_ (fun _ _ z => nomatch z)
  ·
    intro l k y vs w hp hvs
    obtain ⟨rfl, hkq⟩ := hp
    obtain ⟨hk2, rfl⟩ : y < (rOut rest bad 4).length ∧ vs = [vI (((rOut rest bad 4).length : Int) - 1 - (y : Int)), bv .u8 ((rOut rest bad 4).getD ((rOut rest bad 4).length - 1 - y) 0#8)] := by
      simp only [backs] at hvs
      rw [List.getElem?_map] at hvs
      rcases Nat.lt_or_ge y (rOut rest bad 4).length with h | h
      · rw [List.getElem?_range h] at hvs; simp only [Option.map_some, Option.some.injEq] at hvs; exact ⟨h, hvs.symm⟩
      · rw [List.getElem?_eq_none (by simpa using h)] at hvs; cases hvs
    refine i_region ?_
    refine i_op rfl (o_y (y_assign rfl) rfl ?_)
    refine i_nil ?_
    exact k_assigned ⟨rfl, rfl, rfl, trivial⟩
  ·
    intro l k y vs w hp hvs
    obtain ⟨rfl, hkq⟩ := hp
    obtain ⟨hk2, rfl⟩ : y < (rOut rest bad 4).length ∧ vs = [vI (((rOut rest bad 4).length : Int) - 1 - (y : Int)), bv .u8 ((rOut rest bad 4).getD ((rOut rest bad 4).length - 1 - y) 0#8)] := by
      simp only [backs] at hvs
      rw [List.getElem?_map] at hvs
      rcases Nat.lt_or_ge y (rOut rest bad 4).length with h | h
      · rw [List.getElem?_range h] at hvs; simp only [Option.map_some, Option.some.injEq] at hvs; exact ⟨h, hvs.symm⟩
      · rw [List.getElem?_eq_none (by simpa using h)] at hvs; cases hvs
    refine i_block ?_
    refine i_region ?_
    refine i_op rfl (o_y (l1 Tryz.isAgg49 rfl (by rfl)) rfl ?_)
    refine i_op rfl (o_y (y_shlB (s := 8) UK.u64 rfl rfl) rfl ?_)
    refine i_op rfl (o_y (y_move rfl) rfl ?_)
    refine i_op rfl (o_y (y_convB UK.u64 Tryz.runUnderlying5 Tryz.runUnderlying49 rfl) rfl ?_)
    refine i_op rfl (o_y (y_orB UK.u64 rfl rfl) rfl ?_)
    refine i_op rfl (st1 (h1 := rfl) Tryz.sizeOf49 rfl rfl (by rfl) (by rfl) ?_)
    refine i_nil ?_
    refine j_obj b5 (ps' := [P1 (bv .u64 (getV ((rOut rest bad 4).drop ((rOut rest bad 4).length - (y + 1))))) rfl]) (by have := getV_step (rOut rest bad 4) ((rOut rest bad 4).length - (y + 1)) (by omega); rw [show (rOut rest bad 4).length - (y + 1) + 1 = (rOut rest bad 4).length - y from by omega, show (rOut rest bad 4).length - (y + 1) = (rOut rest bad 4).length - 1 - y from by omega] at this; congr 2; rw [show (rOut rest bad 4).length - (y + 1) = (rOut rest bad 4).length - 1 - y from by omega]; exact congrArg _ this) (by rfl) ?_
    exact k_normal (y + 1) ⟨rfl, hk2⟩
  ·
    intro bD1 y hp
    simp only [backs, List.length_map, List.length_range] at hp
    obtain ⟨rfl, _⟩ := hp
    refine j_obj b5 (ps' := [P1 (bv .u64 (getV (rOut rest bad 4))) rfl]) (by rw [Nat.sub_self, List.drop_zero]) (by rfl) ?_
    refine c_seq ?_
    refine c_region ?_
    refine seqq (o_y (l1 Tryz.isAgg49 rfl (by rfl)) rfl ?_)
    refine seqq (o_y (y_assign rfl) rfl ?_)
    refine c_nil ?_
    refine c_ret ?_
    refine m_ret ?_
    refine c_mark (by rfl) ?_
    refine lm_of ?_
    refine c_done1 Tryz.results91 (.tmp rfl) (fun w hS => ?_)
    exact ⟨(a2, m2, c2), hv2, rfl, hS.fin (N := [[(br, obj 180 [P1 (.slice a2 m2 c2) rfl, P1 (.bool (rBad rest bad 4)) rfl])]])⟩
