/- For all arguments the law RelayStays answers true, and its arguments read behind the call as before. Conditions: none. -/
import Derived.Test.YtjoniieoaokimaaGreatVOpn
import Derived.Test.YtjoniieoaokimaaGreatVSty
set_option linter.unusedVariables false
set_option linter.unusedSimpArgs false
set_option linter.unusedSectionVars false
set_option autoImplicit true
set_option relaxedAutoImplicit true
set_option maxRecDepth 100000
set_option maxHeartbeats 1000000
namespace Go.Proofs.YtjoniieoaokimaaGreat
open Go.ChangeShapes Go.WideShapes Go.ChangeAt Go.RowKit Go.V
theorem relayStays_lifted (os : Os) (started : os.Started) (H : Type) (enc : TypeId × Value → H) :
    ReturnsInHanded {} Tryz.checked os 6 .any (Rows.relayStaysSpec.pre6 enc Tryz.prog Tryz.f6 Rows.relayStaysRow.domain false) (Rows.relayStaysSpec.post enc Tryz.prog Tryz.f6 false true false false) := by
  refine returnsInHanded_of_change (C := Tryz.checked) Tryz.own started (by kernel_rfl) Tryz.func6
    (ChangeSpec.witness6 (enc := enc) (C := Tryz.checked) false ⟨#[], #[.int .u32 0, .int .i64 0, .slice none 0 0], []⟩ 8 (by kernel_rfl) (by kernel_rfl) (by kernel_rfl) (by kernel_rfl)) ?_
  intro W base args ds gs before hval0 hW _ _
  have hval : ∀ (j : Nat) t v, Tryz.f6.params[j]? = some t → args[j]? = some v → Value.okWide Tryz.prog W .any base t v := hval0
  have hW' := hW
  obtain ⟨p, q, hA0, hV, rfl, hfz, hnd⟩ := hW
  have hA : DataW.TrodAll enc Tryz.prog W 0 (fun _ => true) true Tryz.f6.params.toList args.toList ds p := hA0
  clear hA0 hval0
  rw [Tryz.params6] at hA hval
  obtain ⟨v0, v1, v2, d0, d1, d2, p0, p1, p2, rfl, rfl, rfl, h0, h1, h2⟩ := trodAll_three hA
  obtain ⟨rfl, rfl⟩ := trodVars_none hV
  clear hA
  obtain ⟨z0, rfl, hz0⟩ := ok_intV Tryz.underlying22 (hval 0 22 v0 rfl rfl)
  rw [← bv_has UK.u32 hz0] at hW' h0 ⊢
  obtain ⟨z1, rfl, _⟩ := ok_intV Tryz.underlying3 (hval 1 3 v1 rfl rfl)
  obtain ⟨A, n, cap, Rd, rfl, hsl, hRd⟩ := open_steps (hval 2 23 v2 rfl rfl) h2
  refine (RelayStays_all (BitVec.ofInt 32 z0) z1 A n cap Rd hsl W hRd).mono fun e W' ⟨v, he, hv, hE⟩ => ?_
  subst he; subst hv
  exact ⟨_, rfl, law_post rfl rfl (by intro t ht; rw [Tryz.params6] at ht; simp at ht; rcases ht with rfl | rfl | rfl <;> exact ⟨by kernel_rfl, of_decide_eq_true (by kernel_rfl)⟩) (by kernel_rfl) hW' hE⟩
theorem relayStays_holds : Rows.RelayStaysSaid :=
  OpenClaim.holds_of_wide 6 Tryz.f6 rfl rfl rfl rfl rfl rfl rfl ⟨rfl, rfl, rfl, rfl, rfl⟩ rfl rfl rfl rfl rfl (by kernel_rfl) Tryz.func6 (by kernel_rfl)
    (of_decide_eq_true (by kernel_rfl)) (by unfold Func.isWrapper; first | (rw [if_pos (by decide +kernel)]; kernel_rfl) | (rw [if_neg (by decide +kernel)]; exact ⟨rfl, rfl⟩))
    (fun os started H enc _ => relayStays_lifted os started H enc)
end Go.Proofs.YtjoniieoaokimaaGreat
#print axioms Go.Proofs.YtjoniieoaokimaaGreat.relayStays_holds
