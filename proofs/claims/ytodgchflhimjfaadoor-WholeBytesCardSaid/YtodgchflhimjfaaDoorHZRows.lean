/- Slices of whole numbers. No condition. -/
import Derived.Test.YtodgchflhimjfaaDoorG5
namespace Go.Proofs.YtodgchflhimjfaaDoor
open Go.RowKit

structure ZEl where
  (b : Bool) (A : Option Addr) (n c : Nat) (l : List Nat)
instance : Inhabited ZEl := ⟨⟨false, none, 0, 0, []⟩⟩
def ZEl.z (x : ZEl) : Int := zv x.b (vl x.l)
/-- A slice that reads as whole numbers. -/
structure ZRows (w : World) (A : Option Addr) (n c : Nat) (xs : List ZEl) : Prop where
  len : xs.length = n
  at_ : 0 < n → ∃ b o, A = some ⟨b, o, none⟩ ∧ b < w.heap.size ∧ ∀ (j : Nat) (x : ZEl), xs[j]? = some x → w.cell? ⟨b, o + j * 2, none⟩ = some (.bool x.b) ∧ w.cell? ⟨b, o + j * 2 + 1, none⟩ = some (.slice x.A x.n x.c)
  lim : ∀ x ∈ xs, Lim w x.A x.n x.c x.l ∧ x.n ≤ maxLen

section
variable {w w' : World} {A : Option Addr} {n c : Nat} {xs : List ZEl}
theorem ZRows.keep (h : ZRows w A n c xs) (hs : w.heap.size ≤ w'.heap.size) (hk : ∀ p : Addr, p.block < w.heap.size → w'.cell? p = w.cell? p) (hl : ∀ x ∈ xs, Lim w x.A x.n x.c x.l → Lim w' x.A x.n x.c x.l) : ZRows w' A n c xs :=
  ⟨h.len, fun hn => by
    obtain ⟨b, o, e, hb, hc⟩ := h.at_ hn
    exact ⟨b, o, e, by omega, fun j x hx => ⟨(hk _ hb).trans (hc j x hx).1, (hk _ hb).trans (hc j x hx).2⟩⟩, fun x hx => ⟨hl x hx (h.lim x hx).1, (h.lim x hx).2⟩⟩
theorem ZRows.below (h : ZRows w A n c xs) (hb : Below w.heap.size w w') : ZRows w' A n c xs := h.keep hb.size (fun _ hp => hb.cell hp) (fun _ _ h => h.below hb)
theorem ZRows.drew (h : ZRows w A n c xs) : ZRows w.drew A n c xs := h.keep (Nat.le_refl _) (fun _ _ => rfl) (fun _ _ h => h.drew)
theorem ZRows.alloc (h : ZRows w A n c xs) (o : Obj) : ZRows (w.alloc o) A n c xs := h.keep (by simp) (fun p hp => World.cell?_alloc_lt w o p hp) (fun _ _ h => h.alloc o)
/-- An append to a row of the call's own turns none of it that lies below. -/
theorem ZRows.grown {row : Option Nat} (h : ZRows w A n c xs) (hg : w.grownBy w' row) (hr : ∀ b, row = some b → (∀ ad, A = some ad → ad.block ≠ b) ∧ ∀ x ∈ xs, ∀ ad, x.A = some ad → ad.block ≠ b) : ZRows w' A n c xs :=
  ⟨h.len, fun hn => by
    obtain ⟨b, o, e, hb, hc⟩ := h.at_ hn
    have hk : ∀ i : Nat, w'.cell? ⟨b, i, none⟩ = w.cell? ⟨b, i, none⟩ := fun i => World.cell?_of_block (a := ⟨b, i, none⟩) (hg.block b hb (fun e' => (hr b e'.symm).1 _ e rfl))
    exact ⟨b, o, e, Nat.lt_of_lt_of_le hb hg.size, fun j x hx => ⟨(hk _).trans (hc j x hx).1, (hk _).trans (hc j x hx).2⟩⟩,
   fun x hx => ⟨(h.lim x hx).1.grown hg (fun ad he e' => (hr _ e'.symm).2 x hx ad he rfl), (h.lim x hx).2⟩⟩
theorem ZRows.get {k : Nat} (h : ZRows w A n c xs) (hk : k < n) : ∃ b o x, A = some ⟨b, o, none⟩ ∧ xs[k]? = some x ∧ w.cell? ⟨b, o + k * 2, none⟩ = some (.bool x.b) ∧ w.cell? ⟨b, o + k * 2 + 1, none⟩ = some (.slice x.A x.n x.c) ∧ Lim w x.A x.n x.c x.l ∧ x.n ≤ maxLen := by
  obtain ⟨b, o, e, hb, hc⟩ := h.at_ (by omega)
  have hl : k < xs.length := by rw [h.len]; exact hk
  have hx : xs[k]? = some xs[k] := List.getElem?_eq_getElem hl
  exact ⟨b, o, xs[k], e, hx, (hc k _ hx).1, (hc k _ hx).2, h.lim _ (List.getElem_mem hl)⟩
theorem ZRows.cells {b o : Nat} {k : Nat} {x : ZEl} (h : ZRows w (some ⟨b, o, none⟩) n c xs) (hx : xs[k]? = some x) : w.cell? ⟨b, o + k * 2, none⟩ = some (.bool x.b) ∧ w.cell? ⟨b, o + k * 2 + 1, none⟩ = some (.slice x.A x.n x.c) := by
  have hl := (List.getElem?_eq_some_iff.1 hx).1
  obtain ⟨b', o', e, _, hc⟩ := h.at_ (by have := h.len; omega)
  cases e
  exact hc k x hx
end
end Go.Proofs.YtodgchflhimjfaaDoor
