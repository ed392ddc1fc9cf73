/- For all arguments the law RelaySubmits answers true, and its arguments read behind the call as before. Conditions: none. -/
import Derived.Test.YtjoniieoaokimaaGreatVOpn
import Derived.Test.YtjoniieoaokimaaGreatVSbm
set_option linter.unusedVariables false
set_option linter.unusedSimpArgs false
set_option linter.unusedSectionVars false
set_option autoImplicit true
set_option relaxedAutoImplicit true
set_option maxRecDepth 100000
set_option maxHeartbeats 1000000
namespace Go.Proofs.YtjoniieoaokimaaGreat
open Go.ChangeShapes Go.WideShapes Go.ChangeAt Go.RowKit Go.V
theorem relaySubmits_lifted (os : Os) (started : os.Started) (H : Type) (enc : TypeId × Value → H) :
    ReturnsInHanded {} Tryz.checked os 7 .any (Rows.relaySubmitsSpec.pre6 enc Tryz.prog Tryz.f7 Rows.relaySubmitsRow.domain false) (Rows.relaySubmitsSpec.post enc Tryz.prog Tryz.f7 false true false false) := by
  refine returnsInHanded_of_change (C := Tryz.checked) Tryz.own started (by kernel_rfl) Tryz.func7
    (ChangeSpec.witness6 (enc := enc) (C := Tryz.checked) false ⟨#[], #[.int .i64 0, .int .u32 0, .int .i64 0, .slice none 0 0], []⟩ 8 (by kernel_rfl) (by kernel_rfl) (by kernel_rfl) (by kernel_rfl)) ?_
  intro W base args ds gs before hval0 hW _ _
  have hval : ∀ (j : Nat) t v, Tryz.f7.params[j]? = some t → args[j]? = some v → Value.okWide Tryz.prog W .any base t v := hval0
  have hW' := hW
  obtain ⟨p, q, hA0, hV, rfl, hfz, hnd⟩ := hW
  have hA : DataW.TrodAll enc Tryz.prog W 0 (fun _ => true) true Tryz.f7.params.toList args.toList ds p := hA0
  clear hA0 hval0
  rw [Tryz.params7] at hA hval
  obtain ⟨v0, v1, v2, v3, d0, d1, d2, d3, p0, p1, p2, p3, rfl, rfl, rfl, h0, h1, h2, h3⟩ := trodAll_four hA
  obtain ⟨rfl, rfl⟩ := trodVars_none hV
  clear hA
  obtain ⟨z0, rfl, _⟩ := ok_intV Tryz.underlying3 (hval 0 3 v0 rfl rfl)
  obtain ⟨z1, rfl, hz1⟩ := ok_intV Tryz.underlying22 (hval 1 22 v1 rfl rfl)
  rw [← bv_has UK.u32 hz1] at hW' h1 ⊢
  obtain ⟨z2, rfl, _⟩ := ok_intV Tryz.underlying3 (hval 2 3 v2 rfl rfl)
  obtain ⟨A, n, cap, Rd, rfl, hsl, hRd⟩ := open_steps (hval 3 23 v3 rfl rfl) h3
  refine (RelaySubmits_all z0 (BitVec.ofInt 32 z1) z2 A n cap Rd hsl W hRd).mono fun e W' ⟨v, he, hv, hE⟩ => ?_
  subst he; subst hv
  exact ⟨_, rfl, law_post rfl rfl (by intro t ht; rw [Tryz.params7] at ht; simp at ht; rcases ht with rfl | rfl | rfl | rfl <;> exact ⟨by kernel_rfl, of_decide_eq_true (by kernel_rfl)⟩) (by kernel_rfl) hW' hE⟩
theorem relaySubmits_holds : Rows.RelaySubmitsSaid :=
  OpenClaim.holds_of_wide 7 Tryz.f7 rfl rfl rfl rfl rfl rfl rfl ⟨rfl, rfl, rfl, rfl, rfl⟩ rfl rfl rfl rfl rfl (by kernel_rfl) Tryz.func7 (by kernel_rfl)
    (of_decide_eq_true (by kernel_rfl)) (by unfold Func.isWrapper; first | (rw [if_pos (by decide +kernel)]; kernel_rfl) | (rw [if_neg (by decide +kernel)]; exact ⟨rfl, rfl⟩))
    (fun os started H enc _ => relaySubmits_lifted os started H enc)
end Go.Proofs.YtjoniieoaokimaaGreat
#print axioms Go.Proofs.YtjoniieoaokimaaGreat.relaySubmits_holds
