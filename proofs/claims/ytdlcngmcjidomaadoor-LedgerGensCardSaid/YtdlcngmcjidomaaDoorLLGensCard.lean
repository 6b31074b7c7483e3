/- The card of LedgerGens, out of its walk: the row, then the card; the tie is given. No condition. -/
import Derived.Test.YtdlcngmcjidomaaDoorLLGens
import Derived.Test.YtdlcngmcjidomaaDoorLawBss
import Derived.Test.YtdlcngmcjidomaaDoorTie
import Derived.Test.YtdlcngmcjidomaaDoorCards
import Derived.Lay
import Derived.Stop.Joined
import Derived.SevenTiedAt
namespace Go.Proofs.YtdlcngmcjidomaaDoor
open Go.ChangeShapes Go.WideShapes Go.ChangeAt Go.WideMaps Go.WideElems Go.RowKit
open Go.ChangeMaps (open_string)

theorem own_none : ownKnob Tryd.prog.godebug = none := by kernel_rfl

set_option maxRecDepth 100000 in
theorem ledgerGens_lifted (os : Os) (started : os.Started) (H : Type) (enc : TypeId × Value → H) :
    ReturnsInHanded {} Tryd.checked os 8 .any (fun w args => (Rows.ledgerGensSpec.pre enc Tryd.prog Tryd.f8 Rows.ledgerGensRow.domain false w args ∧ laidMetH Tryd.prog Rows.ledgerGensRow.laid w) ∧ sizedMet enc Tryd.prog Tryd.f8 (OpenSpec.ofChange Rows.ledgerGensSpec) false w args)
      (Rows.ledgerGensSpec.post enc Tryd.prog Tryd.f8 false true false false) := by
  refine returnsInHanded_of_change_and (C := Tryd.checked) (X := fun w _ => laidMetH Tryd.prog Rows.ledgerGensRow.laid w) (fun _ _ _ hh h => h.of_heap hh) own_none started (by kernel_rfl) Tryd.func8
    (ChangeSpec.witness_shaped (enc := enc) (C := Tryd.checked) (os := os) (X := fun w _ => laidMetH Tryd.prog Rows.ledgerGensRow.laid w) false (World.laidAll Tryd.prog os Rows.ledgerGensRow.laid) #[.slice none 0 0] 8 (World.laidAll_os _ _ _)
      (World.shaped_of_ZipB (by kernel_rfl) (by kernel_rfl)) (by kernel_rfl) (by kernel_rfl) (by kernel_rfl)
      (by rw [MakeChecks.laidMetH_plain _ _ _ (by kernel_rfl)]; exact laidMet_laidAll _ (by kernel_rfl) (by kernel_rfl))) ?_
  intro W base args ds gs before hval0 hW _ hwt _ _
  have hval : ∀ (j : Nat) t v, Tryd.f8.params[j]? = some t → args[j]? = some v → Value.okWide Tryd.prog W .any base t v := hval0
  have hlt : ∀ x ∈ before, x.block < W.heap.size := fun x hx => hW.lt x hx
  have hW' := hW
  obtain ⟨p, q, hA0, hV, rfl, _, _⟩ := hW
  have hA : DataW.TrodAll enc Tryd.prog W 0 (fun _ => true) true Tryd.f8.params.toList args.toList ds p := hA0
  rw [Tryd.params8] at hA hval
  obtain ⟨v0, d0, rfl, rfl, h0⟩ := trodAll_one hA
  obtain ⟨rfl, rfl⟩ := trodVars_none hV
  obtain ⟨A0, n0, c0, l0, rfl, hr0, hn0, hw0⟩ := arg_lists (hval 0 59 v0 rfl rfl) h0 (fun x hx => hlt x (by simp [hx]))
  have hq := hw0 140737488351232 (fun z hz => of_decide_eq_true (List.all_eq_true.1 hwt z (weights_first hz)))
  refine (ledgerGens_any A0 n0 c0 l0 W hr0 hn0 (fun x hx => ⟨by have := (hq x hx).1; omega, fun e he => by have := (hq x hx).2 e he; omega⟩)).mono fun e W' ⟨he, hb⟩ => ?_
  subst he
  exact ⟨_, rfl, law_post (by kernel_rfl) (by kernel_rfl) rfl rfl Tryd.underlying4 hW' rfl rfl rfl hb⟩

theorem ledgerGens_holds : Rows.LedgerGensSaid :=
  OpenClaim.holds_of_wide 8 Tryd.f8 rfl rfl rfl rfl rfl rfl rfl ⟨rfl, rfl, rfl, rfl, rfl⟩ rfl rfl rfl rfl rfl (by kernel_rfl) Tryd.func8 (by kernel_rfl)
    (of_decide_eq_true (by kernel_rfl)) (by unfold Func.isWrapper; rw [if_neg (of_decide_eq_false (by kernel_rfl))]; exact ⟨rfl, rfl⟩)
    (fun os started H enc _ => ledgerGens_lifted os started H enc)

theorem ledgerGensCard_holds : Rows.LedgerGensCardSaid :=
  Claim7.holds_tied_plain_at .later [] [.data, .pinned] true (true, "9a967ac29d5e51fc1f0e37e65b06e89bad24b78c246ca10f96ff75f414d26364") true
    ledgerGens_holds (fun _ h => by cases h) (by kernel_rfl) (fun _ h => by cases h) ledgerGens_row_tie rfl ⟨rfl, rfl⟩ (by kernel_rfl) rfl
    (fun f fn hf hfn => by
      obtain rfl : f = 8 := Option.some.inj ((show Tryd.prog.funcNamed "heijunka/heijunkalaw09.LedgerGens" = some 8 by kernel_rfl).symm.trans hf) |>.symm
      obtain rfl : fn = Tryd.f8 := (Option.some.inj (Tryd.func8.symm.trans hfn)).symm
      exact ⟨by kernel_rfl, fun j t ht => by
        rw [Tryd.params8] at ht
        have hm : t ∈ [59] := by simpa using Array.mem_of_getElem? ht
        have hall : ([59].all fun u => !Tryd.prog.wantsStandIn u) = true := by kernel_rfl
        exact (show Tryd.prog.wantsStandIn t = false by simpa using List.all_eq_true.1 hall t hm)⟩)
    (by kernel_rfl)
#print axioms ledgerGensCard_holds
end Go.Proofs.YtdlcngmcjidomaaDoor
