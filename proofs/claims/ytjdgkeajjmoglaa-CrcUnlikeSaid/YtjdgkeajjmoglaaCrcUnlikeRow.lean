/- The row of CrcUnlike, out of its walk. No condition. -/
import Derived.Test.YtjdgkeajjmoglaaLawArr
import Derived.Test.YtjdgkeajjmoglaaCrcUnlike
namespace Go.Proofs.Ytjdgkeajjmoglaa
open Go.ChangeShapes Go.WideShapes Go.ChangeAt Go.RowKit
open Go.ChangeMaps (open_string)

set_option maxRecDepth 100000 in
theorem crcUnlike_lifted (os : Os) (started : os.Started) (H : Type) (enc : TypeId × Value → H) :
    ReturnsInHanded {} Try.checked os 7 .any (Rows.crcUnlikeSpec.pre6 enc Try.prog Try.f7 Rows.crcUnlikeRow.domain false) (Rows.crcUnlikeSpec.post enc Try.prog Try.f7 false true false false) := by
  refine returnsInHanded_of_change (C := Try.checked) (by kernel_rfl) started (by kernel_rfl) Try.func7
    (ChangeSpec.witness6 (enc := enc) (C := Try.checked) false ⟨#[], #[.slice none 0 0, .agg #[.int .u8 0, .int .u8 0, .int .u8 0, .int .u8 0], .agg #[.int .u8 0, .int .u8 0, .int .u8 0, .int .u8 0]], []⟩ 8 (by kernel_rfl) (by kernel_rfl) (by kernel_rfl) (by kernel_rfl)) ?_
  intro W base args ds gs before hval0 hW _ _
  have hval : ∀ (j : Nat) t v, Try.f7.params[j]? = some t → args[j]? = some v → Value.okWide Try.prog W .any base t v := hval0
  have hlt : ∀ x ∈ before, x.block < W.heap.size := fun x hx => hW.lt x hx
  have hW' := hW
  obtain ⟨p, q, hA0, hV, rfl, _, _⟩ := hW
  have hA : DataW.TrodAll enc Try.prog W 0 (fun _ => true) true Try.f7.params.toList args.toList ds p := hA0
  rw [Try.params7] at hA hval
  obtain ⟨v0, v1, v2, d0, d1, d2, p0, p1, p2, rfl, rfl, rfl, h0, h1, h2⟩ := trodAll_three hA
  obtain ⟨rfl, rfl⟩ := trodVars_none hV
  obtain ⟨A0, n0, c0, l0, rfl, hr0, hn0⟩ := arg_ints 256 Try.underlying22 Try.underlying5 (by kernel_rfl) wf_u8 (hval 0 22 v0 rfl rfl) h0 (fun x hx => hlt x (by simp [hx]))
  obtain ⟨y10, y11, y12, y13, rfl, k10, k11, k12, k13⟩ := arg_arr4 Try.underlying38 Try.underlying5 (by kernel_rfl) (by kernel_rfl) (hval 1 38 v1 rfl rfl) h1
  obtain ⟨y20, y21, y22, y23, rfl, k20, k21, k22, k23⟩ := arg_arr4 Try.underlying38 Try.underlying5 (by kernel_rfl) (by kernel_rfl) (hval 2 38 v2 rfl rfl) h2
  refine (crcUnlike_any A0 n0 c0 l0 y10 y11 y12 y13 y20 y21 y22 y23 W hr0 hn0 k10 k11 k12 k13 k20 k21 k22 k23).mono fun e W' ⟨he, hb⟩ => ?_
  subst he
  exact ⟨_, rfl, law_post (by kernel_rfl) (by kernel_rfl) rfl rfl Try.underlying4 hW' rfl rfl rfl hb⟩

theorem crcUnlike_holds : Rows.CrcUnlikeSaid :=
  OpenClaim.holds_of_wide 7 Try.f7 rfl rfl rfl rfl rfl rfl rfl ⟨rfl, rfl, rfl, rfl, rfl⟩ rfl rfl rfl rfl rfl (by kernel_rfl) Try.func7 (by kernel_rfl)
    (of_decide_eq_true (by kernel_rfl)) (by unfold Func.isWrapper; rw [if_neg (of_decide_eq_false (by kernel_rfl))]; exact ⟨rfl, rfl⟩)
    (fun os started H enc _ => crcUnlike_lifted os started H enc)
#print axioms crcUnlike_holds
end Go.Proofs.Ytjdgkeajjmoglaa
