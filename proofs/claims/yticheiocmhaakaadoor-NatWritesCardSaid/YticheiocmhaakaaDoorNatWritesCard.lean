/- The card of NatWrites, out of its walk: the row, then the card; the tie is given. No condition. -/
import Derived.Test.YticheiocmhaakaaDoorNatWrites
import Derived.Test.YticheiocmhaakaaDoorLaw
import Derived.Test.YticheiocmhaakaaDoorTie
import Derived.Test.YticheiocmhaakaaDoorCards
import Derived.Lay
import Derived.Stop.Joined
import Derived.SevenTiedAt
namespace Go.Proofs.YticheiocmhaakaaDoor
open Go.ChangeShapes Go.WideShapes Go.ChangeAt Go.WideMaps Go.WideElems Go.RowKit
open Go.ChangeMaps (open_string)

theorem own_none : ownKnob Tryd.prog.godebug = none := by kernel_rfl

set_option maxRecDepth 100000 in
theorem natWrites_lifted (os : Os) (started : os.Started) (H : Type) (enc : TypeId × Value → H) :
    ReturnsInHanded {} Tryd.checked os 11 .any (fun w args => (Rows.natWritesSpec.pre enc Tryd.prog Tryd.f11 Rows.natWritesRow.domain false w args ∧ laidMetH Tryd.prog Rows.natWritesRow.laid w) ∧ sizedMet enc Tryd.prog Tryd.f11 (OpenSpec.ofChange Rows.natWritesSpec) false w args)
      (Rows.natWritesSpec.post enc Tryd.prog Tryd.f11 false true false false) := by
  refine returnsInHanded_of_change_and (C := Tryd.checked) (X := fun w _ => laidMetH Tryd.prog Rows.natWritesRow.laid w) (fun _ _ _ hh h => h.of_heap hh) own_none started (by kernel_rfl) Tryd.func11
    (ChangeSpec.witness_shaped (enc := enc) (C := Tryd.checked) (os := os) (X := fun w _ => laidMetH Tryd.prog Rows.natWritesRow.laid w) false (World.laidAll Tryd.prog os Rows.natWritesRow.laid) #[.slice none 0 0, .string ByteArray.empty, .slice none 0 0] 8 (World.laidAll_os _ _ _)
      (World.shaped_of_ZipB (by kernel_rfl) (by kernel_rfl)) (by kernel_rfl) (by kernel_rfl) (by kernel_rfl)
      (by rw [MakeChecks.laidMetH_plain _ _ _ (by kernel_rfl)]; exact laidMet_laidAll _ (by kernel_rfl) (by kernel_rfl))) ?_
  intro W base args ds gs before hval0 hW _ _ _ _
  have hval : ∀ (j : Nat) t v, Tryd.f11.params[j]? = some t → args[j]? = some v → Value.okWide Tryd.prog W .any base t v := hval0
  have hlt : ∀ x ∈ before, x.block < W.heap.size := fun x hx => hW.lt x hx
  have hW' := hW
  obtain ⟨p, q, hA0, hV, rfl, _, _⟩ := hW
  have hA : DataW.TrodAll enc Tryd.prog W 0 (fun _ => true) true Tryd.f11.params.toList args.toList ds p := hA0
  rw [Tryd.params11] at hA hval
  obtain ⟨v0, v1, v2, d0, d1, d2, p0, p1, p2, rfl, rfl, rfl, h0, h1, h2⟩ := trodAll_three hA
  obtain ⟨rfl, rfl⟩ := trodVars_none hV
  obtain ⟨A0, n0, c0, l0, rfl, hr0, hn0⟩ := arg_ints 4294967296 Tryd.underlying22 Tryd.underlying33 (by kernel_rfl) wf_u32 (hval 0 22 v0 rfl rfl) h0 (fun x hx => hlt x (by simp [hx]))
  obtain ⟨x1, rfl, _, _, hx1⟩ := open_string Tryd.underlying9 (hval 1 9 v1 rfl rfl) h1
  obtain ⟨A2, n2, c2, l2, rfl, hr2, hn2⟩ := arg_ints 256 Tryd.underlying36 Tryd.underlying5 (by kernel_rfl) wf_u8 (hval 2 36 v2 rfl rfl) h2 (fun x hx => hlt x (by simp [hx]))
  refine (natWrites_any A0 n0 c0 l0 x1 A2 n2 c2 l2 W hr0 hn0 hx1 hr2 hn2).mono fun e W' ⟨he, hb⟩ => ?_
  subst he
  exact ⟨_, rfl, law_post (by kernel_rfl) (by kernel_rfl) rfl rfl Tryd.underlying4 hW' rfl rfl rfl hb⟩

theorem natWrites_holds : Rows.NatWritesSaid :=
  OpenClaim.holds_of_wide 11 Tryd.f11 rfl rfl rfl rfl rfl rfl rfl ⟨rfl, rfl, rfl, rfl, rfl⟩ rfl rfl rfl rfl rfl (by kernel_rfl) Tryd.func11 (by kernel_rfl)
    (of_decide_eq_true (by kernel_rfl)) (by unfold Func.isWrapper; rw [if_neg (of_decide_eq_false (by kernel_rfl))]; exact ⟨rfl, rfl⟩)
    (fun os started H enc _ => natWrites_lifted os started H enc)

theorem natWritesCard_holds : Rows.NatWritesCardSaid :=
  Claim7.holds_tied_plain_at .later [] [.data, .pinned] true (true, "9b519f94bd26710fbc97fbe137bb38ed69a20304b411be0bb1c6d6ef14a43fe5") false
    natWrites_holds (fun _ h => by cases h) (by kernel_rfl) (fun _ h => by cases h) natWrites_row_tie rfl ⟨rfl, rfl⟩ (by kernel_rfl) rfl
    (fun f fn hf hfn => by
      obtain rfl : f = 11 := Option.some.inj ((show Tryd.prog.funcNamed "heijunka/heijunkalaw01.NatWrites" = some 11 by kernel_rfl).symm.trans hf) |>.symm
      obtain rfl : fn = Tryd.f11 := (Option.some.inj (Tryd.func11.symm.trans hfn)).symm
      exact ⟨by kernel_rfl, fun j t ht => by
        rw [Tryd.params11] at ht
        have hm : t ∈ [22, 9, 36] := by simpa using Array.mem_of_getElem? ht
        have hall : ([22, 9, 36].all fun u => !Tryd.prog.wantsStandIn u) = true := by kernel_rfl
        exact (show Tryd.prog.wantsStandIn t = false by simpa using List.all_eq_true.1 hall t hm)⟩)
    (by kernel_rfl)
#print axioms natWritesCard_holds
end Go.Proofs.YticheiocmhaakaaDoor
