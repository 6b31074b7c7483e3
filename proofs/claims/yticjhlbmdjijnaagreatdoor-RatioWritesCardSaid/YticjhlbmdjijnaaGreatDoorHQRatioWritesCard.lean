/- The card of RatioWrites, out of its walk: the row, then the card; the tie is given. No condition. -/
import Derived.Test.YticjhlbmdjijnaaGreatDoorHQRatioWrites
import Derived.Test.YticjhlbmdjijnaaGreatDoorHLawQ
import Derived.Test.YticjhlbmdjijnaaGreatDoorTie
import Derived.Test.YticjhlbmdjijnaaGreatDoorCards
import Derived.Lay
import Derived.Stop.Joined
import Derived.SevenTiedAt
namespace Go.Proofs.YticjhlbmdjijnaaGreatDoor
open Go.ChangeShapes Go.WideShapes Go.ChangeAt Go.WideMaps Go.WideElems Go.RowKit
open Go.ChangeMaps (open_string)

theorem own_none : ownKnob Tryz.prog.godebug = none := by kernel_rfl

set_option maxRecDepth 100000 in
theorem ratioWrites_lifted (os : Os) (started : os.Started) (H : Type) (enc : TypeId × Value → H) :
    ReturnsInHanded {} Tryz.checked os 10 .any (fun w args => (Rows.ratioWritesSpec.pre enc Tryz.prog Tryz.f10 Rows.ratioWritesRow.domain false w args ∧ laidMetH Tryz.prog Rows.ratioWritesRow.laid w) ∧ sizedMet enc Tryz.prog Tryz.f10 (OpenSpec.ofChange Rows.ratioWritesSpec) false w args)
      (Rows.ratioWritesSpec.post enc Tryz.prog Tryz.f10 false true false false) := by
  refine returnsInHanded_of_change_and (C := Tryz.checked) (X := fun w _ => laidMetH Tryz.prog Rows.ratioWritesRow.laid w) (fun _ _ _ hh h => h.of_heap hh) own_none started (by kernel_rfl) Tryz.func10
    (ChangeSpec.witness_shaped (enc := enc) (C := Tryz.checked) (os := os) (X := fun w _ => laidMetH Tryz.prog Rows.ratioWritesRow.laid w) false (World.laidAll Tryz.prog os Rows.ratioWritesRow.laid) #[.agg #[.bool false, .slice none 0 0, .bool false, .slice none 0 0], .string ByteArray.empty, .slice none 0 0] 8 (World.laidAll_os _ _ _)
      (World.shaped_of_ZipB (by kernel_rfl) (by kernel_rfl)) (by kernel_rfl) (by kernel_rfl) (by kernel_rfl)
      (by rw [MakeChecks.laidMetH_plain _ _ _ (by kernel_rfl)]; exact laidMet_laidAll _ (by kernel_rfl) (by kernel_rfl))) ?_
  intro W base args ds gs before hval0 hW _ _ _ _
  have hval : ∀ (j : Nat) t v, Tryz.f10.params[j]? = some t → args[j]? = some v → Value.okWide Tryz.prog W .any base t v := hval0
  have hlt : ∀ x ∈ before, x.block < W.heap.size := fun x hx => hW.lt x hx
  have hW' := hW
  obtain ⟨p, q, hA0, hV, rfl, _, _⟩ := hW
  have hA : DataW.TrodAll enc Tryz.prog W 0 (fun _ => true) true Tryz.f10.params.toList args.toList ds p := hA0
  rw [Tryz.params10] at hA hval
  obtain ⟨v0, v1, v2, d0, d1, d2, p0, p1, p2, rfl, rfl, rfl, h0, h1, h2⟩ := trodAll_three hA
  obtain ⟨rfl, rfl⟩ := trodVars_none hV
  obtain ⟨b0, A0, n0, c0, l0, b0', A0', n0', c0', l0', rfl, hr0, hn0, hr0', hn0'⟩ := arg_q (hval 0 26 v0 rfl rfl) h0 (fun x hx => hlt x (by simp [hx]))
  obtain ⟨x1, rfl, _, _, hx1⟩ := open_string Tryz.underlying9 (hval 1 9 v1 rfl rfl) h1
  obtain ⟨A2, n2, c2, l2, rfl, hr2, hn2⟩ := arg_ints 256 Tryz.underlying38 Tryz.underlying5 (by kernel_rfl) wf_u8 (hval 2 38 v2 rfl rfl) h2 (fun x hx => hlt x (by simp [hx]))
  refine (ratioWrites_any b0 A0 n0 c0 l0 b0' A0' n0' c0' l0' x1 A2 n2 c2 l2 W hr0 hn0 hr0' hn0' hx1 hr2 hn2).mono fun e W' ⟨he, hb⟩ => ?_
  subst he
  exact ⟨_, rfl, law_post (by kernel_rfl) (by kernel_rfl) rfl rfl Tryz.underlying4 hW' rfl rfl rfl hb⟩

theorem ratioWrites_holds : Rows.RatioWritesSaid :=
  OpenClaim.holds_of_wide 10 Tryz.f10 rfl rfl rfl rfl rfl rfl rfl ⟨rfl, rfl, rfl, rfl, rfl⟩ rfl rfl rfl rfl rfl (by kernel_rfl) Tryz.func10 (by kernel_rfl)
    (of_decide_eq_true (by kernel_rfl)) (by unfold Func.isWrapper; rw [if_neg (of_decide_eq_false (by kernel_rfl))]; exact ⟨rfl, rfl⟩)
    (fun os started H enc _ => ratioWrites_lifted os started H enc)

theorem ratioWritesCard_holds : Rows.RatioWritesCardSaid :=
  Claim7.holds_tied_plain_at .later [] [.data, .pinned] true (true, "7fab516207673339f57aa13ed3288d8c937f3b73d5ca46b92871cb276140962e") false
    ratioWrites_holds (fun _ h => by cases h) (by kernel_rfl) (fun _ h => by cases h) ratioWrites_row_tie rfl ⟨rfl, rfl⟩ (by kernel_rfl) rfl
    (fun f fn hf hfn => by
      obtain rfl : f = 10 := Option.some.inj ((show Tryz.prog.funcNamed "heijunka/heijunkalaw03.RatioWrites" = some 10 by kernel_rfl).symm.trans hf) |>.symm
      obtain rfl : fn = Tryz.f10 := (Option.some.inj (Tryz.func10.symm.trans hfn)).symm
      exact ⟨by kernel_rfl, fun j t ht => by
        rw [Tryz.params10] at ht
        have hm : t ∈ [26, 9, 38] := by simpa using Array.mem_of_getElem? ht
        have hall : ([26, 9, 38].all fun u => !Tryz.prog.wantsStandIn u) = true := by kernel_rfl
        exact (show Tryz.prog.wantsStandIn t = false by simpa using List.all_eq_true.1 hall t hm)⟩)
    (by kernel_rfl)
#print axioms ratioWritesCard_holds
end Go.Proofs.YticjhlbmdjijnaaGreatDoor
