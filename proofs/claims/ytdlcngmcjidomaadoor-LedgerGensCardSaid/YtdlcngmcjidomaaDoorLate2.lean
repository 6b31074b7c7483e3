/- A region that draws its order, as in Late: where several operations may come up. No condition. -/
import Derived.Test.YtdlcngmcjidomaaDoorLate
namespace Go.Proofs.YtdlcngmcjidomaaDoor
open Go

section
variable {P : Program} {md : Region.Mode} {ops : Array Oper} {Q : Exit → Act → World → Prop} {D : List Nat} {S : World → Prop}
/-- Each of these, if it comes up, serves. -/
structure StepsL (P : Program) (md : Region.Mode) (ops : Array Oper) (Q : Exit → Act → World → Prop) (D : List Nat) (S : World → Prop) (fuel : Nat) (listed : Array Bool) (a : Act) (w : World) (rs : List Nat) : Prop where
  all : ∀ i ∈ rs, wpOp P ops Q i (fun a' w' => (i ∉ D → S w') ∧ wpAnyL P md ops Q D S fuel (listed.setIfInBounds i true) a' w') a w
theorem StepsL.nil {fuel : Nat} {listed : Array Bool} {a : Act} {w : World} : StepsL P md ops Q D S fuel listed a w [] := ⟨fun _ h => by cases h⟩
theorem StepsL.cons {i : Nat} {o : Oper} {rs : List Nat} {fuel : Nat} {listed : Array Bool} {a : Act} {w : World} (ho : ops[i]? = some o)
    (h : ∀ K' : Act → World → Prop, Shut (∀ a w, (i ∉ D → S w) → wpAnyL P md ops Q D S fuel (listed.setIfInBounds i true) a w → K' a w) → if Region.wanted o (yielded ops a.tmps) = true then Oper.wp P o a w K' Q else K' (a.put o.dst undef) w)
    (hr : StepsL P md ops Q D S fuel listed a w rs) : StepsL P md ops Q D S fuel listed a w (i :: rs) :=
  ⟨fun j hj => by
    rcases List.mem_cons.1 hj with rfl | hj
    · exact wpOp_step ho (fun K' hK => h K' (fun a w hS hW => hK a w ⟨hS, hW⟩))
    · exact hr.all j hj⟩
theorem wpAnyL_all {rs : List Nat} {fuel : Nat} {listed : Array Bool} {a : Act} {w : World} (hr : Region.ready md ops listed = rs) (hne : rs ≠ [])
    (h : StepsL P md ops Q D S fuel listed a w rs) : wpAnyL P md ops Q D S (fuel + 1) listed a w :=
  ⟨fun h0 => absurd (hr.symm.trans h0) hne, fun j hj => h.all j (hr ▸ hj)⟩
end
end Go.Proofs.YtdlcngmcjidomaaDoor
