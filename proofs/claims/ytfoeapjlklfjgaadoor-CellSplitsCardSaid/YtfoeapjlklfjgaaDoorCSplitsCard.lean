/- The card of CellSplits, out of its walk: the row, then the card; the tie is given. No condition. -/
import Derived.Test.YtfoeapjlklfjgaaDoorCSplits
import Derived.Test.YtfoeapjlklfjgaaDoorLawC2
import Derived.Test.YtfoeapjlklfjgaaDoorTie
import Derived.Test.YtfoeapjlklfjgaaDoorCards
import Derived.Lay
import Derived.Stop.Joined
import Derived.SevenTiedAt
namespace Go.Proofs.YtfoeapjlklfjgaaDoor
open Go.ChangeShapes Go.WideShapes Go.ChangeAt Go.WideMaps Go.WideElems Go.RowKit
open Go.ChangeMaps (open_string)

theorem own_none : ownKnob Tryd.prog.godebug = none := by kernel_rfl

set_option maxRecDepth 100000 in
theorem cellSplits_lifted (os : Os) (started : os.Started) (H : Type) (enc : TypeId × Value → H) :
    ReturnsInHanded {} Tryd.checked os 4 .any (fun w args => (Rows.cellSplitsSpec.pre enc Tryd.prog Tryd.f4 Rows.cellSplitsRow.domain false w args ∧ laidMetH Tryd.prog Rows.cellSplitsRow.laid w) ∧ sizedMet enc Tryd.prog Tryd.f4 (OpenSpec.ofChange Rows.cellSplitsSpec) false w args)
      (Rows.cellSplitsSpec.post enc Tryd.prog Tryd.f4 false true false false) := by
  refine returnsInHanded_of_change_and (C := Tryd.checked) (X := fun w _ => laidMetH Tryd.prog Rows.cellSplitsRow.laid w) (fun _ _ _ hh h => h.of_heap hh) own_none started (by kernel_rfl) Tryd.func4
    (ChangeSpec.witness_shaped (enc := enc) (C := Tryd.checked) (os := os) (X := fun w _ => laidMetH Tryd.prog Rows.cellSplitsRow.laid w) false (World.laidAll Tryd.prog os Rows.cellSplitsRow.laid) #[.agg #[.int .u32 0, .int .u32 0], .slice none 0 0, .slice none 0 0] 8 (World.laidAll_os _ _ _)
      (World.shaped_of_ZipB (by kernel_rfl) (by kernel_rfl)) (by kernel_rfl) (by kernel_rfl) (by kernel_rfl)
      (by rw [MakeChecks.laidMetH_plain _ _ _ (by kernel_rfl)]; exact laidMet_laidAll _ (by kernel_rfl) (by kernel_rfl))) ?_
  intro W base args ds gs before hval0 hW _ hwt _ _
  have hval : ∀ (j : Nat) t v, Tryd.f4.params[j]? = some t → args[j]? = some v → Value.okWide Tryd.prog W .any base t v := hval0
  have hlt : ∀ x ∈ before, x.block < W.heap.size := fun x hx => hW.lt x hx
  have hW' := hW
  obtain ⟨p, q, hA0, hV, rfl, _, _⟩ := hW
  have hA : DataW.TrodAll enc Tryd.prog W 0 (fun _ => true) true Tryd.f4.params.toList args.toList ds p := hA0
  rw [Tryd.params4] at hA hval
  obtain ⟨v0, v1, v2, d0, d1, d2, p0, p1, p2, rfl, rfl, rfl, h0, h1, h2⟩ := trodAll_three hA
  obtain ⟨rfl, rfl⟩ := trodVars_none hV
  obtain ⟨x0, y0, rfl, hx0, hy0⟩ := arg_pair 4294967296 Tryd.underlying37 Tryd.underlying22 wf_u32 (by kernel_rfl) (by kernel_rfl) (hval 0 37 v0 rfl rfl) h0
  obtain ⟨A1, n1, c1, l1, rfl, hr1, hn1⟩ := arg_ints 256 Tryd.underlying23 Tryd.underlying5 (by kernel_rfl) wf_u8 (hval 1 23 v1 rfl rfl) h1 (fun x hx => hlt x (by simp [hx]))
  obtain ⟨A2, n2, c2, l2, rfl, hr2, hn2, hw2⟩ := arg_clsw (hval 2 34 v2 rfl rfl) h2 (fun x hx => hlt x (by simp [hx]))
  refine (cellSplits_any x0 y0 A1 n1 c1 l1 A2 n2 c2 l2 W hx0 hy0 hr1 hn1 hr2 hn2 (hw2 140737488351232 (fun z hz => of_decide_eq_true (List.all_eq_true.1 hwt z (weights_third hz))))).mono fun e W' ⟨he, hb⟩ => ?_
  subst he
  exact ⟨_, rfl, law_post (by kernel_rfl) (by kernel_rfl) rfl rfl Tryd.underlying4 hW' rfl rfl rfl hb⟩

theorem cellSplits_holds : Rows.CellSplitsSaid :=
  OpenClaim.holds_of_wide 4 Tryd.f4 rfl rfl rfl rfl rfl rfl rfl ⟨rfl, rfl, rfl, rfl, rfl⟩ rfl rfl rfl rfl rfl (by kernel_rfl) Tryd.func4 (by kernel_rfl)
    (of_decide_eq_true (by kernel_rfl)) (by unfold Func.isWrapper; rw [if_neg (of_decide_eq_false (by kernel_rfl))]; exact ⟨rfl, rfl⟩)
    (fun os started H enc _ => cellSplits_lifted os started H enc)

theorem cellSplitsCard_holds : Rows.CellSplitsCardSaid :=
  Claim7.holds_tied_plain_at .later [] [.data, .pinned] true (true, "21d5d5ae8a876f93d756d75c3c57f67dd610f1eba9f57c83dc6b7248bc7787d7") false
    cellSplits_holds (fun _ h => by cases h) (by kernel_rfl) (fun _ h => by cases h) cellSplits_row_tie rfl ⟨rfl, rfl⟩ (by kernel_rfl) rfl
    (fun f fn hf hfn => by
      obtain rfl : f = 4 := Option.some.inj ((show Tryd.prog.funcNamed "heijunka/heijunkalaw06.CellSplits" = some 4 by kernel_rfl).symm.trans hf) |>.symm
      obtain rfl : fn = Tryd.f4 := (Option.some.inj (Tryd.func4.symm.trans hfn)).symm
      exact ⟨by kernel_rfl, fun j t ht => by
        rw [Tryd.params4] at ht
        have hm : t ∈ [37, 23, 34] := by simpa using Array.mem_of_getElem? ht
        have hall : ([37, 23, 34].all fun u => !Tryd.prog.wantsStandIn u) = true := by kernel_rfl
        exact (show Tryd.prog.wantsStandIn t = false by simpa using List.all_eq_true.1 hall t hm)⟩)
    (by kernel_rfl)
#print axioms cellSplitsCard_holds
end Go.Proofs.YtfoeapjlklfjgaaDoor
