/- (beside layer 1) A region that draws its order within a round of a range over a function, at the wide fence: the lone laws serve. No condition. -/
import Derived.Test.YtdlcngmcjidomaaDoorRange
import Derived.Test.YtdlcngmcjidomaaDoorLate
import Derived.Deep.RegionHeld3
namespace Go.Proofs.YtdlcngmcjidomaaDoor
open Go.RowKit Go.Shelf

/-- Q, but 'False' at a panic, and where the run lets out. -/
def Tight (Q : Exit → Act → World → Prop) : Exit → Act → World → Prop
  | .outgrown, _, _ => False
  | .panic _, _, _ => False
  | e, a, w => Q e a w

section
variable {l n : Nat} {P : Program} {ops : Array Oper} {Q : Exit → Act → World → Prop} {md : Region.Mode}
theorem wpOpIn_of_op (hnd : ∀ (i : Nat) (o : Oper), ops[i]? = some o → ∀ c, o.op ≠ .defer c)
    {i : Nat} {K K' : Act → World → Prop} {a : Act} {w : World} (hK : ∀ a w, K a w → K' a w) (h : wpOp P ops (Tight Q) i K a w) : wpOpIn (Fence.wide.inRound l) n P ops Q i K' a w := by
  unfold wpOp at h
  unfold wpOpIn
  cases ho : ops[i]? with
  | none => rw [ho] at h; exact hK _ _ h
  | some o =>
    rw [ho] at h
    simp only at h ⊢
    by_cases hw : Region.wanted o (yielded ops a.tmps) = true
    · rw [if_pos hw] at h ⊢
      rcases h with h | ⟨_, a', w', h⟩
      · refine ⟨fun _ _ => trivial, ?_⟩
        unfold Oper.wp at h
        rw [Fence.inRound_round, Oper.semAt_some l _ _ (hnd i o ho)]
        generalize (execOp a.eval o).run P w = r at *
        cases r with
        | ok x w' =>
          cases x <;> simp only [Oper.upon, Oper.uponIn] at h ⊢
          case value => exact hK _ _ h
          case skip => exact hK _ _ h
          case defer => exact hK _ _ h
          case enter f args =>
            refine ⟨(fun hd => by cases hd), ?_⟩
            refine (CallsIn.inRound l (callsIn_wide.2 h)).mono ?_
            intro e w'' he
            cases e with
            | returned v => exact hK _ _ he
            | panicked c => exact (he : False).elim
            | outgrown => obtain ⟨_, _, hf⟩ := he; exact hf.elim
          case row row args => exact ⟨(fun hd => by cases hd), fun c cs _ => let ⟨v, w', r, s⟩ := h c cs; ⟨v, w', hK _ _ r, stepsIn_wide.2 s⟩⟩
        | halt x w' => cases x <;> simp only [Oper.upon, Oper.uponIn] at h ⊢ <;> exact (h : False).elim
      · exact h.elim
    · rw [if_neg hw] at h ⊢
      exact ⟨fun _ _ => trivial, hK _ _ h⟩
theorem wpAnyIn_of_any (hnd : ∀ (i : Nat) (o : Oper), ops[i]? = some o → ∀ c, o.op ≠ .defer c) :
    ∀ (fuel : Nat) (listed : Array Bool) (a : Act) (w : World), wpAny P md ops (Tight Q) fuel listed a w → wpAnyIn (Fence.wide.inRound l) n P md ops Q fuel listed a w
  | 0, _, _, _, h => ⟨h.1, h.2⟩
  | fuel + 1, _, _, _, h => ⟨fun hr => h.1 hr, fun i hi => wpOpIn_of_op hnd (fun a w => wpAnyIn_of_any hnd fuel _ a w) (h.2 i hi)⟩
/-- The beginning, within a round: from the world behind the draw. -/
theorem wpIn_round_held {l n : Nat} {P : Program} {id : Nat} {L : List Oper} {Q : Exit → Act → World → Prop} {a : Act} {w : World} (S : World → Prop) (hm : P.follows .mixedOrders = true) (hnd : L.all (fun o => match o.op with | .defer _ => false | _ => true) = true) (hS : S w.drew)
    (h : S w.drew → wpAnyH P .any L.toArray (Tight Q) S L.toArray.size (Array.replicate L.toArray.size false) a w.drew) : (Code.region id L.toArray true).wpIn (Fence.wide.inRound l) n P Q a w :=
  wpIn_region_any hm (wpAnyIn_of_any (fun i o ho c hc => by
    have h1 : o ∈ L := by simpa using Array.mem_of_getElem? ho
    have h2 := List.all_eq_true.1 hnd o h1
    rw [hc] at h2
    cases h2) _ _ _ _ (wpAny_of_held _ _ _ _ (h hS)))
/-- The beginning, whose last ones may turn what they load. -/
theorem wpIn_round_late {l n : Nat} {P : Program} {id : Nat} {L : List Oper} {Q : Exit → Act → World → Prop} {a : Act} {w : World} (D : List Nat) (S : World → Prop) (hm : P.follows .mixedOrders = true) (hnd : L.all (fun o => match o.op with | .defer _ => false | _ => true) = true)
    (h : wpAnyL P .any L.toArray (Tight Q) D S L.toArray.size (Array.replicate L.toArray.size false) a w.drew) : (Code.region id L.toArray true).wpIn (Fence.wide.inRound l) n P Q a w :=
  wpIn_region_any hm (wpAnyIn_of_any (fun i o ho c hc => by
    have h1 : o ∈ L := by simpa using Array.mem_of_getElem? ho
    have h2 := List.all_eq_true.1 hnd o h1
    rw [hc] at h2
    cases h2) _ _ _ _ (wpAny_of_late _ _ _ _ h))
end
end Go.Proofs.YtdlcngmcjidomaaDoor
