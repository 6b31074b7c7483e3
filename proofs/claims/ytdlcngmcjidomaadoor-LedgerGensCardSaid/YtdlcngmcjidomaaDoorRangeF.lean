/- A range over a function whose iterator keeps nothing of its own; what it yields is told by a predicate; the variables may lie in blocks that each round lays; the body never leaves. No condition. -/
import Derived.Test.YtdlcngmcjidomaaDoorRange
namespace Go.Proofs.YtdlcngmcjidomaaDoor
set_option linter.unusedSimpArgs false
set_option linter.unusedVariables false
open Go.RowKit Go.Shelf

section
variable {F : Fence} {n : Nat} {P : Program}
/-- How a part of a round ends. -/
def keepPost (B : Nat) (W : World) (R : Act → World → Prop) : Exit → Act → World → Prop
  | .normal, a, W' => KeepsFrom B W W' ∧ R a W'
  | _, _, _ => False

theorem wpIn_range_free {α : Type} {g : Operand} {ps : Array Tmp} {assign body : Code} {Q : Exit → Act → World → Prop} {a : Act} {w : World}
    (hro : F.round = none) (h1 : 1 ≤ n) {gf : Nat} {lb : Array Value} (hg : a.eval g = .func (.func gf) #[] lb) (hFg : F.fn gf) (eg : ∀ args w, (callFunc gf args).run P w = .ok (.enter gf args) w)
    {encs : α → Array Value} (hps : ∀ x, (encs x).size = ps.size)
    (I : List α → World → Prop) (C Ax : List α → α → Act → World → Prop) (Fin : List α → Prop)
    (hI : OwnFrom w.heap.size I) (hIB : ∀ s A B, I s A → Below A.heap.size A B → I s B) (h0 : I [] w)
    (hAx : ∀ x a, OwnFrom w.heap.size (fun pre W => Ax pre x a W))
    (hseq : ∀ (l : Nat) (J : List α → World → Prop) (W : World), (∀ s A B, J s A → Below A.heap.size A B → J s B) → (∀ s A, J s A → I s A) → J [] W →
      (∀ pre x W1, J pre W1 → C pre x a W1 → YieldAt F (n - 1 - 1) P l (encs x) W1 fun e W' => e = .returned (.bool true) ∧ J (pre ++ [x]) W') →
      CallsIn F (n - 1) P gf (#[.func (.yield l) #[] #[]] ++ lb) W fun e W' => (∃ v, e = .returned v) ∧ ∃ xs, J xs W' ∧ Fin xs)
    (hassign : ∀ (l : Nat) (pre : List α) (x : α) (W : World), I pre W → C pre x a W →
      assign.wpIn (F.inRound l) (n - 1 - 1) P (keepPost w.heap.size W (fun a' W' => Ax pre x a' W')) { tmps := (ps.zip (encs x)).foldl (fun t (p, v) => t.setIfInBounds p v) a.tmps, defers := [] } W)
    (hbody : ∀ (l : Nat) (pre : List α) (x : α) (a' : Act) (W : World), Ax pre x a' W → body.wpIn (F.inRound l) (n - 1 - 1) P (keepPost w.heap.size W (fun _ W' => I (pre ++ [x]) W')) a' W)
    (hdone : ∀ (D : Nat) (W : World) (xs : List α), w.heap.size ≤ D → I xs W → Fin xs → W.heap[D]? = some (.deferred (some [])) → Q .normal { a with defers := { target := .collected D, args := #[] } :: a.defers } W) :
    (Code.rangeFunc g ps assign body).wpIn F n P Q a w := by
  refine wpIn_rangeFunc fun fn hfn => ?_
  rw [hro]
  generalize hq : (fun (s : LoopState) => ({ state := s, pending := none, fn, tmps := a.tmps, params := ps, assign, body, defers := w.heap.size } : Loop)) = rec
  have hrec : ∀ s, rec s = { state := s, pending := none, fn, tmps := a.tmps, params := ps, assign, body, defers := w.heap.size } := fun s => by rw [← hq]
  generalize hW1 : (w.alloc (.deferred (some []))).alloc (.loop (rec .ready)) = W1
  have b1 : Below w.heap.size w W1 := by rw [← hW1]; exact ((Below.refl _ w).alloc (Nat.le_refl _) _).alloc (by simp) _
  have hL : W1.heap[w.heap.size + 1]? = some (.loop (rec .ready)) := by
    have := heap_alloc_new (w.alloc (.deferred (some []))) (.loop (rec .ready))
    rw [World.size_alloc, hW1] at this; exact this
  have hD : W1.heap[w.heap.size]? = some (.deferred (some [])) := by
    rw [← hW1]; exact (Below.heap_alloc _ _ _ (by simp)).trans (heap_alloc_new w _)
  refine ⟨w.heap.size + 1, [{ target := .collected w.heap.size, args := #[] }], W1, { target := .fn (.func gf) lb, args := #[.func (.yield (w.heap.size + 1)) #[] #[]] }, W1, gf, #[.func (.yield (w.heap.size + 1)) #[] #[]] ++ lb, W1, ?_, ?_, ?_, ?_, fun _ => h1, ?_⟩
  · rw [← hW1, hrec]; exact run_enterLoop_outer _ _ _ _ _
  · simp only [resolve, hg]
    simp [go_sem]
  · intro f' hf'
    simp [Target.leads] at hf'
    subst hf'; exact hFg
  · simp [invoke, go_sem, eg]
  refine (hseq (w.heap.size + 1) (fun s W => I s W ∧ W.heap[w.heap.size + 1]? = some (.loop (rec .ready)) ∧ W.heap[w.heap.size]? = some (.deferred (some []))) W1 ?_ (fun s A h => h.1) ⟨?_, hL, hD⟩ ?_).mono ?_
  · rintro s A B ⟨hs, hl, hd⟩ hb
    exact ⟨hIB s A B hs hb, (hb.block _ (Array.getElem?_eq_some_iff.1 hl).1).trans hl, (hb.block _ (Array.getElem?_eq_some_iff.1 hd).1).trans hd⟩
  · rw [← hW1]; exact hI.alloc _ (hI.alloc _ h0)
  · rintro pre x W ⟨hi, hl, hd⟩ hc
    have hlt : w.heap.size + 1 < W.heap.size := (Array.getElem?_eq_some_iff.1 hl).1
    have hy := run_yield (P := P) (args := encs x) hl (by rw [hrec]; exact hps x)
    rw [hrec] at hy
    refine ⟨fn, _, assign, body, hy, roundIn_of_wpIn hfn ?_⟩
    refine wpIn_mono (hassign _ pre x W hi hc) ?_
    rintro e a2 W2 hp
    cases e with
    | normal =>
      obtain ⟨hk2, hax⟩ := hp
      have hl1 := hk2.same _ _ (by omega) hl rfl
      have hd1 := hk2.same _ _ (Nat.le_refl _) hd rfl
      have hlt1 : w.heap.size + 1 < W2.heap.size := (Array.getElem?_eq_some_iff.1 hl1).1
      refine ⟨_, run_beginRound hl1 (by rw [hrec]), ?_⟩
      have hl2 : (W2.putObj (w.heap.size + 1) (.loop { rec .ready with state := .busy })).heap[w.heap.size + 1]? = some (.loop { rec .ready with state := .busy }) := World.putObj_heap_same hlt1
      have hd2 : (W2.putObj (w.heap.size + 1) (.loop { rec .ready with state := .busy })).heap[w.heap.size]? = some (.deferred (some [])) := (World.putObj_heap_other (by omega)).trans hd1
      refine wpIn_mono (hbody _ pre x a2 _ ((hAx x a2).putObj _ hax (by omega) hl1 rfl)) ?_
      rintro e a3 W3 hp
      cases e with
      | normal =>
        obtain ⟨hk3, hi3⟩ := hp
        have hl3 := hk3.same _ _ (by omega) hl2 rfl
        have hd3 := hk3.same _ _ (Nat.le_refl _) hd2 rfl
        have hlt3 : w.heap.size + 1 < W3.heap.size := (Array.getElem?_eq_some_iff.1 hl3).1
        have hend := run_endRound (P := P) none hl3
        refine ⟨_, _, hend, rfl, hI.putObj _ hi3 (by omega) hl3 rfl, ?_, (World.putObj_heap_other (by omega)).trans hd3⟩
        rw [World.putObj_heap_same hlt3]
        simp only [hrec]
        rfl
      | _ => exact hp.elim
    | _ => exact hp.elim
  · rintro e W2 ⟨⟨v, rfl⟩, xs, ⟨hi, hl, hd⟩, hf⟩
    have hend := run_endLoop (P := P) hl (by rw [hrec]; simp)
    refine ⟨_, _, hend, ?_⟩
    rw [hrec]
    exact hdone _ _ xs (Nat.le_refl _) (hI.putObj _ hi (by omega) hl rfl) hf ((World.putObj_heap_other (by omega)).trans hd)
end
end Go.Proofs.YtdlcngmcjidomaaDoor
