/- The card of WholeSmall, out of its walk: the row, then the card; the tie is given. No condition. -/
import Derived.Test.YticjhlbmdjijnaaDoorHWSmall
import Derived.Test.YticjhlbmdjijnaaDoorG9
import Derived.Test.YticjhlbmdjijnaaDoorTie
import Derived.Test.YticjhlbmdjijnaaDoorCards
import Derived.Lay
import Derived.Stop.Joined
import Derived.SevenTiedAt
namespace Go.Proofs.YticjhlbmdjijnaaDoor
open Go.ChangeShapes Go.WideShapes Go.ChangeAt Go.WideMaps Go.WideElems Go.RowKit
open Go.ChangeMaps (open_string)

theorem own_none : ownKnob Tryd.prog.godebug = none := by kernel_rfl

set_option maxRecDepth 100000 in
theorem wholeSmall_lifted (os : Os) (started : os.Started) (H : Type) (enc : TypeId × Value → H) :
    ReturnsInHanded {} Tryd.checked os 3 .any (fun w args => (Rows.wholeSmallSpec.pre enc Tryd.prog Tryd.f3 Rows.wholeSmallRow.domain false w args ∧ laidMetH Tryd.prog Rows.wholeSmallRow.laid w) ∧ sizedMet enc Tryd.prog Tryd.f3 (OpenSpec.ofChange Rows.wholeSmallSpec) false w args)
      (Rows.wholeSmallSpec.post enc Tryd.prog Tryd.f3 false true false false) := by
  refine returnsInHanded_of_change_and (C := Tryd.checked) (X := fun w _ => laidMetH Tryd.prog Rows.wholeSmallRow.laid w) (fun _ _ _ hh h => h.of_heap hh) own_none started (by kernel_rfl) Tryd.func3
    (ChangeSpec.witness_shaped (enc := enc) (C := Tryd.checked) (os := os) (X := fun w _ => laidMetH Tryd.prog Rows.wholeSmallRow.laid w) false (World.laidAll Tryd.prog os Rows.wholeSmallRow.laid) #[.int .i64 0, .agg #[.bool false, .slice none 0 0], .agg #[.bool false, .slice none 0 0]] 8 (World.laidAll_os _ _ _)
      (World.shaped_of_ZipB (by kernel_rfl) (by kernel_rfl)) (by kernel_rfl) (by kernel_rfl) (by kernel_rfl)
      (by rw [MakeChecks.laidMetH_plain _ _ _ (by kernel_rfl)]; exact laidMet_laidAll _ (by kernel_rfl) (by kernel_rfl))) ?_
  intro W base args ds gs before hval0 hW _ _ _ _
  have hval : ∀ (j : Nat) t v, Tryd.f3.params[j]? = some t → args[j]? = some v → Value.okWide Tryd.prog W .any base t v := hval0
  have hlt : ∀ x ∈ before, x.block < W.heap.size := fun x hx => hW.lt x hx
  have hW' := hW
  obtain ⟨p, q, hA0, hV, rfl, _, _⟩ := hW
  have hA : DataW.TrodAll enc Tryd.prog W 0 (fun _ => true) true Tryd.f3.params.toList args.toList ds p := hA0
  rw [Tryd.params3] at hA hval
  obtain ⟨v0, v1, v2, d0, d1, d2, p0, p1, p2, rfl, rfl, rfl, h0, h1, h2⟩ := trodAll_three hA
  obtain ⟨rfl, rfl⟩ := trodVars_none hV
  obtain ⟨x0, rfl, _, _, hx0⟩ := open_int Tryd.underlying2 (hval 0 2 v0 rfl rfl) h0
  obtain ⟨b1, A1, n1, c1, l1, rfl, hr1, hn1⟩ := arg_z (hval 1 24 v1 rfl rfl) h1 (fun x hx => hlt x (by simp [hx]))
  obtain ⟨b2, A2, n2, c2, l2, rfl, hr2, hn2⟩ := arg_z (hval 2 24 v2 rfl rfl) h2 (fun x hx => hlt x (by simp [hx]))
  refine (wholeSmall_any x0 b1 A1 n1 c1 l1 b2 A2 n2 c2 l2 W (wf_i64 hx0) hr1 hn1 hr2 hn2).mono fun e W' ⟨he, hb⟩ => ?_
  subst he
  exact ⟨_, rfl, law_post (by kernel_rfl) (by kernel_rfl) rfl rfl Tryd.underlying4 hW' rfl rfl rfl hb⟩

theorem wholeSmall_holds : Rows.WholeSmallSaid :=
  OpenClaim.holds_of_wide 3 Tryd.f3 rfl rfl rfl rfl rfl rfl rfl ⟨rfl, rfl, rfl, rfl, rfl⟩ rfl rfl rfl rfl rfl (by kernel_rfl) Tryd.func3 (by kernel_rfl)
    (of_decide_eq_true (by kernel_rfl)) (by unfold Func.isWrapper; rw [if_neg (of_decide_eq_false (by kernel_rfl))]; exact ⟨rfl, rfl⟩)
    (fun os started H enc _ => wholeSmall_lifted os started H enc)

theorem wholeSmallCard_holds : Rows.WholeSmallCardSaid :=
  Claim7.holds_tied_plain_at .later [] [.data, .pinned] true (true, "42daaa258994651ca92c65c3b87585e2306365fa1b991454628cb42dfd7cf21e") false
    wholeSmall_holds (fun _ h => by cases h) (by kernel_rfl) (fun _ h => by cases h) wholeSmall_row_tie rfl ⟨rfl, rfl⟩ (by kernel_rfl) rfl
    (fun f fn hf hfn => by
      obtain rfl : f = 3 := Option.some.inj ((show Tryd.prog.funcNamed "heijunka/heijunkalaw02.WholeSmall" = some 3 by kernel_rfl).symm.trans hf) |>.symm
      obtain rfl : fn = Tryd.f3 := (Option.some.inj (Tryd.func3.symm.trans hfn)).symm
      exact ⟨by kernel_rfl, fun j t ht => by
        rw [Tryd.params3] at ht
        have hm : t ∈ [2, 24, 24] := by simpa using Array.mem_of_getElem? ht
        have hall : ([2, 24, 24].all fun u => !Tryd.prog.wantsStandIn u) = true := by kernel_rfl
        exact (show Tryd.prog.wantsStandIn t = false by simpa using List.all_eq_true.1 hall t hm)⟩)
    (by kernel_rfl)
#print axioms wholeSmallCard_holds
end Go.Proofs.YticjhlbmdjijnaaDoor
