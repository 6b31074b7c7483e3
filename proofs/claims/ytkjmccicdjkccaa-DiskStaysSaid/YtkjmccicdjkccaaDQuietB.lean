/- A law's disk: what is kept may be fewer; cells of what was there. No condition. -/
import Derived.Test.YtkjmccicdjkccaaDiskJ
namespace Go.Proofs.Ytkjmccicdjkccaa
set_option linter.unusedSimpArgs false
set_option linter.unusedVariables false
open Go.RowKit

theorem DE.keep {w0 w : World} {g : Nat} {s : DSt} {rs rs' : List BEl} {ims ims' : List ImgT} (E : DE w0 w g s rs ims) (hr : ∀ x ∈ rs', x ∈ rs) (hi : ∀ x ∈ ims', x ∈ ims) : DE w0 w g s rs' ims' := by
  obtain ⟨T, D, hT, hb0, h1, h2⟩ := E.ex
  exact ⟨T, D, hT, hb0, fun x hx => h1 x (hr x hx), fun x hx => h2 x (hi x hx)⟩
theorem cell_in {w0 w : World} {p : Addr} {v : Value} (hb : Below w0.heap.size w0 w) (h : w0.cell? p = some v) : w.cell? p = some v := by
  refine (hb.cell ?_).trans h
  refine Nat.lt_of_not_le fun hle => ?_
  unfold World.cell? at h
  rw [Array.getElem?_eq_none hle] at h
  cases h
theorem cell_below {w w' : World} {p : Addr} {v : Value} (hb : Below w.heap.size w w') (h : w.cell? p = some v) : w'.cell? p = some v := cell_in hb h
end Go.Proofs.Ytkjmccicdjkccaa
