/- The environment within a round: what isn't cells stays. No condition. -/
import Derived.Test.YtdlcngmcjidomaaDoorWE
import Derived.Test.YtdlcngmcjidomaaDoorRangeF
namespace Go.Proofs.YtdlcngmcjidomaaDoor
set_option linter.unusedSimpArgs false
set_option linter.unusedVariables false
open Go.RowKit Go.Shelf

structure WK (W w0 w : World) (g : Nat) (s : DSt) (bl : List WBk) (ys : List WRow) (rd : List BEl) : Prop where
  e : WE w0 w g s bl ys rd
  size : W.heap.size ≤ w.heap.size
  same : ∀ (k : Nat) (o : Obj), W.heap[k]? = some o → o.isCells = false → w.heap[k]? = some o
section
variable {W w0 w w' : World} {g : Nat} {s s' : DSt} {bl : List WBk} {ys : List WRow} {rd : List BEl}
theorem WK.start (E : WE w0 w g s bl ys rd) : WK w w0 w g s bl ys rd := ⟨E, Nat.le_refl _, fun _ _ h _ => h⟩
theorem WK.keeps (h : WK W w0 w g s bl ys rd) (B : Nat) : KeepsFrom B W w := ⟨h.size, fun k o _ hk ho => h.same k o hk ho⟩
theorem WK.to (h : WK W w0 w g s bl ys rd) {bl' : List WBk} {ys' : List WRow} {rd' : List BEl} (E : WE w0 w g s bl' ys' rd') : WK W w0 w g s bl' ys' rd' := ⟨E, h.size, h.same⟩
theorem WK.next (h : WK W w0 w g s bl ys rd) {bl' : List WBk} {ys' : List WRow} {rd' : List BEl} (hs : w.heap.size ≤ w'.heap.size) (hk : ∀ (k : Nat) (o : Obj), w.heap[k]? = some o → o.isCells = false → w'.heap[k]? = some o) (E : WE w0 w' g s bl' ys' rd') : WK W w0 w' g s bl' ys' rd' :=
  ⟨E, Nat.le_trans h.size hs, fun k o h1 h2 => hk k o (h.same k o h1 h2) h2⟩
theorem others_below (hb : Below w.heap.size w w') : ∀ (k : Nat) (o : Obj), w.heap[k]? = some o → o.isCells = false → w'.heap[k]? = some o := fun k o h _ => (hb.block k (Array.getElem?_eq_some_iff.1 h).1).trans h
theorem WK.below (h : WK W w0 w g s bl ys rd) (hb : Below w.heap.size w w') : WK W w0 w' g s bl ys rd := h.next hb.size (others_below hb) (h.e.below hb)
theorem WK.drew (h : WK W w0 w g s bl ys rd) : WK W w0 w.drew g s bl ys rd := h.below ((Below.refl _ _).drew)
theorem WK.alloc (h : WK W w0 w g s bl ys rd) (o : Obj) : WK W w0 (w.alloc o) g s bl ys rd := h.below ((Below.refl _ _).alloc (Nat.le_refl _) o)
theorem WK.add (h : WK W w0 w g s bl ys rd) (ty : TypeId) (cs : Array Value) (hty : ty ≠ 5) : WK W w0 (w.alloc (.cells cs ty)) g s ((w.heap.size, ty, cs) :: bl) ys rd :=
  (h.alloc (.cells cs ty)).to (h.e.add ty cs hty)
theorem WK.set (h : WK W w0 w g s bl ys rd) (i j : Nat) {a : Nat} {t : TypeId} {cs : Array Value} (hi : bl[i]? = some (a, t, cs)) (u : Value) : WK W w0 (w.setCell ⟨a, j, none⟩ u) g s (bl.set i (a, t, cs.setIfInBounds j u)) ys rd :=
  h.next (by simp [World.setCell]) (fun k o hk ho => (heap_setCell_other w _ k u (fun e => by
    have hb := h.e.b i hi
    have e : k = a := e
    subst e
    rw [hb.is] at hk; cases hk; cases ho)).trans hk) (h.e.set i j hi u)
theorem WK.app (h : WK W w0 w g s bl ys rd) (i : Nat) {ty : TypeId} {sz n c : Nat} {A : Option Addr} {vs : List Value} (hi : ys[i]? = some ⟨ty, sz, A, n, c, vs⟩) {A' : Option Addr} {n' c' : Nat} {vs' : List Value}
    (ho : OwnR w' w0.heap.size ty sz A' n' c' vs') (hg : w.grownBy w' (A.map (·.block))) (hA : A' = A ∨ A' = some ⟨w.heap.size, 0, none⟩) : WK W w0 w' g s bl (ys.set i ⟨ty, sz, A', n', c', vs'⟩) rd :=
  h.next hg.size (fun k o hk hc => (hg.block k (Array.getElem?_eq_some_iff.1 hk).1 (fun e => by
    have hr := h.e.row i hi
    dsimp only at hr
    rcases hr.form with ⟨h7, _⟩ | ⟨q, cur, h7, _, hg7, _⟩
    · rw [h7] at e; cases e
    · rw [h7] at e
      injection e with e
      have e : k = q := e
      subst e
      rw [hg7.is] at hk; cases hk; cases hc)).trans hk) (h.e.app i hi ho hg hA)
theorem WK.cell (h : WK W w0 w g s bl ys rd) (i j : Nat) {b : WBk} {u : Value} (hb : bl[i]? = some b) (hu : b.2.2[j]? = some u) : w.cell? ⟨b.1, j, none⟩ = some u := h.e.cell i j hb hu
theorem WK.frozen (h : WK W w0 w g s bl ys rd) (i j : Nat) {b : WBk} (hb : bl[i]? = some b) : w.frozen? ⟨b.1, j, none⟩ = false := h.e.frozen i j hb
theorem WK.eq (h : WK W w0 w g s bl ys rd) {bl' : List WBk} (e : bl = bl') : WK W w0 w g s bl' ys rd := e ▸ h
/-- A whole struct into one of its blocks. -/
theorem WE.put (E : WE w0 w g s bl ys rd) (i : Nat) {a : Nat} {t : TypeId} {cs cs' : Array Value} (hi : bl[i]? = some (a, t, cs)) (hb' : Blk w' a t cs') (hg : w.grownBy w' (some a)) : WE w0 w' g s (bl.set i (a, t, cs')) ys rd := by
  obtain ⟨T, D, hT, hb0, hB, hN, hY, hP, hR⟩ := E.ex
  have hb := hB _ (List.mem_of_getElem? hi)
  have hc : Ch w0.heap.size w w' [a] := ⟨hg.os, hg.tape, hg.output, hg.size, fun k hk hs => hg.block k hk (fun e => hs (by injection e with e; simp [e])), fun k hk => by
    rw [List.mem_singleton] at hk
    subst hk
    exact ⟨hb.2.2.2, fun cs' h' => (hb.1.type_ne h' hb.2.1) rfl⟩⟩
  have hil : i < bl.length := (List.getElem?_eq_some_iff.1 hi).1
  have hmap : (bl.set i (a, t, cs')).map (·.1) = bl.map (·.1) := by
    rw [List.map_set]
    refine List.ext_getElem? fun k => ?_
    rw [List.getElem?_set]
    split
    · next hk =>
      subst hk
      rw [List.getElem?_map, hi, if_pos (by simpa using hil)]
      rfl
    · rfl
  refine ⟨T, hc.disk D (fun k hk e => by rw [List.mem_singleton] at e; subst e; exact hb.2.2.1 hk), hT, hc.below (B := 0) hb0 hb0.size, fun b h => ?_, by rw [hmap]; exact hN, fun y hy => ⟨hc.row (hY y hy).1 (fun ad e => ?_), (hY y hy).2.1, fun ad e => ⟨((hY y hy).2.2 ad e).1, fun b h => ?_⟩⟩, hP, fun x hx => hc.far (hR x hx) hb0.size⟩
  · obtain ⟨k, hk⟩ := List.mem_iff_getElem?.1 h
    rw [List.getElem?_set] at hk
    split at hk
    · next hik =>
      subst hik
      (try rw [if_pos hil] at hk)
      cases hk
      exact ⟨hb', hb.2⟩
    · next hik =>
      have h1 := hB b (List.mem_of_getElem? hk)
      exact ⟨hc.blk h1.1 (fun e => by rw [List.mem_singleton] at e; exact nodup_ne hN hk hi (fun e => hik e.symm) e), h1.2⟩
  · intro e2
    rw [List.mem_singleton] at e2
    exact ((hY y hy).2.2 ad e).2 _ (List.mem_of_getElem? hi) e2.symm
  · have h1 := ((hY y hy).2.2 ad e).2
    rcases List.mem_or_eq_of_mem_set h with h | rfl
    · exact h1 b h
    · exact h1 (a, t, cs) (List.mem_of_getElem? hi)
theorem WK.put (h : WK W w0 w g s bl ys rd) (i : Nat) {a : Nat} {t : TypeId} {cs cs' : Array Value} (hi : bl[i]? = some (a, t, cs)) (hb' : Blk w' a t cs') (hg : w.grownBy w' (some a)) : WK W w0 w' g s (bl.set i (a, t, cs')) ys rd :=
  h.next hg.size (fun k o hk ho => (hg.block k (Array.getElem?_eq_some_iff.1 hk).1 (fun e => by
    have hb := h.e.b i hi
    injection e with e
    subst e
    rw [hb.is] at hk; cases hk; cases ho)).trans hk) (h.e.put i hi hb' hg)
theorem WK.see (h : WK W w0 w g s bl ys rd) {x : BEl} (hx : FarB w w0.heap.size x) : WK W w0 w g s bl ys (x :: rd) := h.to (h.e.see hx)
end
end Go.Proofs.YtdlcngmcjidomaaDoor
