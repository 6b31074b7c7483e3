/- A struct of two cells in a block of its own: its two stores. No condition. -/
import Derived.Test.YtdlcngmcjidomaaDoorBase
namespace Go.Proofs.YtdlcngmcjidomaaDoor
open Go.RowKit

section
variable {w : World} {base : Nat} {kd : IntKind} {lim : Nat} {e t : TypeId} {A : Option Addr} {n c g : Nat} {l : List Nat}
theorem OwnI.st2 (h : OwnI w base kd lim e A n c l) (hg : ∀ ad, A = some ad → ad.block ≠ g) (u v : Value) : OwnI ((w.setCell ⟨g, 0, none⟩ u).setCell ⟨g, 1, none⟩ v) base kd lim e A n c l :=
  (h.setCell (p := ⟨g, 0, none⟩) hg u).setCell (p := ⟨g, 1, none⟩) hg v
theorem Ints.st2 (h : Ints w kd lim A n c l) (hg : ∀ ad, A = some ad → ad.block ≠ g) (u v : Value) : Ints ((w.setCell ⟨g, 0, none⟩ u).setCell ⟨g, 1, none⟩ v) kd lim A n c l :=
  (h.setCell (p := ⟨g, 0, none⟩) hg u).setCell (p := ⟨g, 1, none⟩) hg v
theorem below_st2 {B : Nat} {a : World} (h : Below B a w) (hg : B ≤ g) (u v : Value) : Below B a ((w.setCell ⟨g, 0, none⟩ u).setCell ⟨g, 1, none⟩ v) := (h.setCell (p := ⟨g, 0, none⟩) hg u).setCell (p := ⟨g, 1, none⟩) hg v
theorem Blk.st2 {a b : Value} (h : Blk w g t #[a, b]) (u v : Value) : Blk ((w.setCell ⟨g, 0, none⟩ u).setCell ⟨g, 1, none⟩ v) g t #[u, v] := (h.set_ 0 u).set_ 1 v
theorem Blk.far2 {g' : Nat} {cs : Array Value} (h : Blk w g' t cs) (hne : g' ≠ g) (u v : Value) : Blk ((w.setCell ⟨g, 0, none⟩ u).setCell ⟨g, 1, none⟩ v) g' t cs := (h.far (p := ⟨g, 0, none⟩) hne u).far (p := ⟨g, 1, none⟩) hne v
theorem Blk.c0 {a b : Value} (h : Blk w g t #[a, b]) : w.cell? ⟨g, 0, none⟩ = some a := h.cell 0
theorem Blk.c1 {a b : Value} (h : Blk w g t #[a, b]) : w.cell? ⟨g, 1, none⟩ = some b := h.cell 1
/-- A block just laid, its number as the walk spells it. -/
theorem Blk.new_at (w : World) (t : TypeId) (cs : Array Value) (hg : g = w.heap.size) : Blk (w.alloc (.cells cs t)) g t cs := by subst hg; exact Blk.new w t cs
/-- What a call has made lies beyond what was there ahead of it. -/
theorem OwnI.far {w' : World} (h : OwnI w' w.heap.size kd lim e A n c l) (hg : g < w.heap.size) : ∀ ad, A = some ad → ad.block ≠ g := fun ad he => by have := (h.lt_ ad he).1; omega
end
end Go.Proofs.YtdlcngmcjidomaaDoor
