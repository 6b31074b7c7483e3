/- A region within a round of a range over a function, at the wide fence: the lone laws serve. No condition. -/
import Derived.Test.YtdlcngmcjidomaaDoorRoundB
namespace Go.Proofs.YtdlcngmcjidomaaDoor
open Go.RowKit Go.Shelf

section
variable {l n : Nat} {P : Program} {ops : Array Oper} {Q : Exit → Act → World → Prop}
theorem wpListIn_of_list : ∀ (L : List Oper), (L.all (fun o => match o.op with | .defer _ => false | _ => true) = true) → ∀ (a : Act) (w : World), wpList P ops (Tight Q) L a w → wpListIn (Fence.wide.inRound l) n P ops Q L a w
  | [], _, _, _, h => h
  | o :: rest, hnd, a, w, h => by
    rw [List.all_cons, Bool.and_eq_true] at hnd
    have hd : ∀ c, o.op ≠ .defer c := fun c hc => by
      have := hnd.1
      rw [hc] at this
      cases this
    unfold wpList at h
    unfold wpListIn
    by_cases hw : Region.wanted o (yielded ops a.tmps) = true
    · rw [if_pos hw] at h ⊢
      rcases h with h | ⟨_, a', w', h⟩
      · refine ⟨fun _ _ => trivial, ?_⟩
        unfold Oper.wp at h
        rw [Fence.inRound_round, Oper.semAt_some l _ _ hd]
        generalize (execOp a.eval o).run P w = r at *
        cases r with
        | ok x w' =>
          cases x <;> simp only [Oper.upon, Oper.uponIn] at h ⊢
          case value => exact wpListIn_of_list rest hnd.2 _ _ h
          case skip => exact wpListIn_of_list rest hnd.2 _ _ h
          case defer => exact wpListIn_of_list rest hnd.2 _ _ h
          case enter f args =>
            refine ⟨(fun hd => by cases hd), ?_⟩
            refine (CallsIn.inRound l (callsIn_wide.2 h)).mono ?_
            intro e w'' he
            cases e with
            | returned v => exact wpListIn_of_list rest hnd.2 _ _ he
            | panicked c => exact (he : False).elim
            | outgrown => obtain ⟨_, _, hf⟩ := he; exact hf.elim
          case row row args => exact ⟨(fun hd => by cases hd), fun c cs _ => let ⟨v, w', r, s⟩ := h c cs; ⟨v, w', wpListIn_of_list rest hnd.2 _ _ r, stepsIn_wide.2 s⟩⟩
        | halt x w' => cases x <;> simp only [Oper.upon, Oper.uponIn] at h ⊢ <;> exact (h : False).elim
      · exact h.elim
    · rw [if_neg hw] at h ⊢
      exact ⟨fun _ _ => trivial, wpListIn_of_list rest hnd.2 _ _ h⟩
theorem wpIn_round_list {id : Nat} {a : Act} {w : World} (hnd : (ops.toList.all (fun o => match o.op with | .defer _ => false | _ => true) = true)) (h : wpList P ops (Tight Q) ops.toList a w) : (Code.region id ops false).wpIn (Fence.wide.inRound l) n P Q a w :=
  wpIn_region_list (wpListIn_of_list _ hnd _ _ h)
theorem wpIn_round_lit {id : Nat} {L : List Oper} {a : Act} {w : World} (hnd : (L.all (fun o => match o.op with | .defer _ => false | _ => true) = true)) (h : wpList P L.toArray (Tight Q) L a w) : (Code.region id L.toArray false).wpIn (Fence.wide.inRound l) n P Q a w :=
  wpIn_region_lit (wpListIn_of_list _ hnd _ _ h)
end
end Go.Proofs.YtdlcngmcjidomaaDoor
