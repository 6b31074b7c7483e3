/- The row of DiskStays, out of its walk. No condition. -/
import Derived.Test.YtkjmccicdjkccaaLawAct
import Derived.Test.YtkjmccicdjkccaaDStays
namespace Go.Proofs.Ytkjmccicdjkccaa
set_option linter.unusedSimpArgs false
set_option linter.unusedVariables false
open Go.ChangeShapes Go.WideShapes Go.ChangeAt Go.RowKit
open Go.ChangeMaps (open_string)

set_option maxRecDepth 100000 in
theorem diskStays_lifted (os : Os) (started : os.Started) (H : Type) (enc : TypeId × Value → H) :
    ReturnsInHanded {} Try.checked os 6 .any (Rows.diskStaysSpec.pre6 enc Try.prog Try.f6 Rows.diskStaysRow.domain false) (Rows.diskStaysSpec.post enc Try.prog Try.f6 false true false false) := by
  refine returnsInHanded_of_change (C := Try.checked) (by kernel_rfl) started (by kernel_rfl) Try.func6
    (ChangeSpec.witness6 (enc := enc) (C := Try.checked) false ⟨#[], #[.slice none 0 0, .slice none 0 0, .slice none 0 0], []⟩ 8 (by kernel_rfl) (by kernel_rfl) (by kernel_rfl) (by kernel_rfl)) ?_
  intro W base args ds gs before hval0 hW _ _
  have hval : ∀ (j : Nat) t v, Try.f6.params[j]? = some t → args[j]? = some v → Value.okWide Try.prog W .any base t v := hval0
  have hlt : ∀ x ∈ before, x.block < W.heap.size := fun x hx => hW.lt x hx
  have hW' := hW
  obtain ⟨p, q, hA0, hV, rfl, _, _⟩ := hW
  have hA : DataW.TrodAll enc Try.prog W 0 (fun _ => true) true Try.f6.params.toList args.toList ds p := hA0
  rw [Try.params6] at hA hval
  obtain ⟨v0, v1, v2, d0, d1, d2, p0, p1, p2, rfl, rfl, rfl, h0, h1, h2⟩ := trodAll_three hA
  obtain ⟨rfl, rfl⟩ := trodVars_none hV
  obtain ⟨A0, n0, c0, l0, rfl, hr0, hn0⟩ := arg_ints 256 Try.underlying29 Try.underlying5 (by kernel_rfl) wf_u8 (hval 0 29 v0 rfl rfl) h0 (fun x hx => hlt x (by simp [hx]))
  obtain ⟨A1, n1, c1, l1, rfl, hr1, hn1⟩ := arg_acts (hval 1 22 v1 rfl rfl) h1 (fun x hx => hlt x (by simp [hx]))
  obtain ⟨A2, n2, c2, l2, rfl, hr2, hn2⟩ := arg_ints 256 Try.underlying29 Try.underlying5 (by kernel_rfl) wf_u8 (hval 2 29 v2 rfl rfl) h2 (fun x hx => hlt x (by simp [hx]))
  refine (diskStays_any A0 n0 c0 l0 A1 n1 c1 l1 A2 n2 c2 l2 W hr0 hn0 hr1 hn1 hr2 hn2).mono fun e W' ⟨he, hb⟩ => ?_
  subst he
  exact ⟨_, rfl, law_post (by kernel_rfl) (by kernel_rfl) rfl rfl Try.underlying4 hW' rfl rfl rfl hb⟩

theorem diskStays_holds : Rows.DiskStaysSaid :=
  OpenClaim.holds_of_wide 6 Try.f6 rfl rfl rfl rfl rfl rfl rfl ⟨rfl, rfl, rfl, rfl, rfl⟩ rfl rfl rfl rfl rfl (by kernel_rfl) Try.func6 (by kernel_rfl)
    (of_decide_eq_true (by kernel_rfl)) (by unfold Func.isWrapper; rw [if_neg (of_decide_eq_false (by kernel_rfl))]; exact ⟨rfl, rfl⟩)
    (fun os started H enc _ => diskStays_lifted os started H enc)
#print axioms diskStays_holds
end Go.Proofs.Ytkjmccicdjkccaa
