/- disk.Image. No condition. -/
import Derived.Test.YtdlcngmcjidomaaDoorDiskF
namespace Go.Proofs.YtdlcngmcjidomaaDoor
set_option linter.unusedSimpArgs false
set_option linter.unusedVariables false
open Go.RowKit

theorem binfo : (Tryd.prog.info? 22).map (fun i => (i.zero, i.size, i.bytes)) = some (some (.slice none 0 0), 1, 24) := by kernel_rfl

set_option maxRecDepth 100000 in
theorem clone_nil (n c : Nat) (w : World) :
    Calls Tryd.prog 41 #[.slice none n c] w fun e w' => e = .returned (.slice none 0 0) ∧ w = w' := by
  have q22 : ∀ (w : World) (a : Option Addr) (n c n' c' : Nat), (binOp .eql 22 (.slice a n c) (.slice none n' c')).run Tryd.prog w = .ok (.bool a.isNone) w := fun w a n c n' c' => Lib.run_eql_slice_nil w _ _ a n c n' c' Tryd.underlying22
  go_enter Tryd.func41, Tryd.ntmps41
  go_wp2_with fail
  go_ret
  exact ⟨rfl, rfl⟩
/-- A copy of bytes. -/
theorem clone_el {w : World} {x : BEl} (h : x.In w) (hn : x.n ≤ 140737488355328) :
    Calls Tryd.prog 41 #[.slice x.A x.n x.c] w fun e w' => ∃ A n c, e = .returned (.slice A n c) ∧ BEl.In w' ⟨A, n, c, x.l⟩ ∧ Below w.heap.size w w' := by
  cases hA : x.A with
  | none => exact (clone_nil x.n x.c w).mono fun _ _ ⟨he, hw⟩ => by subst hw; exact ⟨none, 0, 0, he, by rw [h.nil.1 hA]; exact ⟨OwnI.nil_ .., by simp⟩, Below.refl _ _⟩
  | some ad =>
    have hr := h.ints
    rw [hA] at hr
    exact (clone_any (some ad) x.n x.c x.l w hr (by simp) hn).mono fun _ _ ⟨A', c', he, ho, hb⟩ => ⟨A', _, c', he, BEl.In.of_own ho (fun e => by have := h.nil.2 e; rw [hA] at this; cases this), hb⟩

section
variable {w w' : World} {T T1 : List Nat} {g : Nat} {s : DSt} {A A2 : Option Addr} {n c : Nat} {pA : Option Addr} {pn pc c2 : Nat} {xs : List BEl} {ys : List (Nat × BEl)}
/-- A slice of rows of bytes. -/
structure Img (w : World) (base : Nat) (A : Option Addr) (n c : Nat) (ls : List (List Nat)) : Prop where
  ex : ∃ xs : List BEl, OwnR w base 22 1 A n c (xs.map BEl.v) ∧ (∀ x ∈ xs, x.In w) ∧ ls = xs.map (·.l)
theorem Img.nil_ (w : World) (base : Nat) : Img w base none 0 0 [] := ⟨[], OwnR.nil_ .., fun _ h => (by cases h), rfl⟩
theorem Img.below {base : Nat} {ls : List (List Nat)} (h : Img w base A n c ls) (hb : Below w.heap.size w w') : Img w' base A n c ls := by
  obtain ⟨xs, h1, h2, h3⟩ := h.ex
  exact ⟨xs, h1.below hb, fun x hx => (h2 x hx).below hb, h3⟩
theorem Img.len {base : Nat} {ls : List (List Nat)} (h : Img w base A n c ls) : ls.length = n := by
  obtain ⟨xs, h1, h2, h3⟩ := h.ex
  have := h1.len
  rw [h3, List.length_map]
  simpa using this
theorem Img.moved {base : Nat} {ls : List (List Nat)} (h : Img w base A n c ls) (hn : NoU8 w T) (hm : Moved w w' T T1) (hA : ∀ ad, A = some ad → ad.block ∉ T) : Img w' base A n c ls := by
  obtain ⟨xs, h1, h2, h3⟩ := h.ex
  exact ⟨xs, h1.moved hm hA, fun x hx => (h2 x hx).stay hn hm, h3⟩
theorem Img.lt {base : Nat} {ls : List (List Nat)} (h : Img w base A n c ls) : ∀ ad, A = some ad → base ≤ ad.block ∧ ad.block < w.heap.size := by
  obtain ⟨xs, h1, _⟩ := h.ex
  exact h1.lt
theorem Img.get {base : Nat} {ls : List (List Nat)} {k : Nat} (h : Img w base A n c ls) (hk : k < n) : ∃ b x, A = some ⟨b, 0, none⟩ ∧ BEl.In w x ∧ ls[k]? = some x.l ∧ w.cell? ⟨b, k, none⟩ = some (.slice x.A x.n x.c) := by
  obtain ⟨xs, h1, h2, h3⟩ := h.ex
  have hl := h1.len
  rw [List.length_map, Nat.mul_one] at hl
  have hx : xs[k]? = some xs[k] := List.getElem?_eq_getElem (by omega)
  obtain ⟨b, e, _, _, hc, _⟩ := h1.get (j := k) (u := xs[k].v) (by rw [List.getElem?_map, hx]; rfl)
  exact ⟨b, xs[k], e, h2 _ (List.getElem_mem _), by rw [h3, List.getElem?_map, hx]; rfl, hc⟩
/-- A row more. -/
theorem Img.snoc {base : Nat} {x : BEl} (h2 : ∀ x ∈ xs, x.In w) (h1 : OwnR w base 22 1 A n c (xs.map BEl.v)) (hx : x.In w) (hp : OwnR w' base 22 1 A2 (n + 1) c2 (xs.map BEl.v ++ [x.v])) (hg : w.grownBy w' (A.map (·.block))) : Img w' base A2 (n + 1) c2 (xs.map (·.l) ++ [x.l]) := by
  have hm : Moved w w' (Ab A) (Ab A) := Moved.of_grown hg (fun k hk => by
    cases A with
    | none => cases hk
    | some ad => cases hk; simp [Ab])
  have hn : NoU8 w (Ab A) := h1.nou8 (by decide)
  refine ⟨xs ++ [x], by rw [List.map_append]; exact hp, fun y hy => ?_, by rw [List.map_append]; rfl⟩
  rcases List.mem_append.1 hy with hy | hy
  · exact (h2 y hy).stay hn hm
  · rw [List.mem_singleton] at hy
    subst hy
    exact hx.stay hn hm
end

end Go.Proofs.YtdlcngmcjidomaaDoor
