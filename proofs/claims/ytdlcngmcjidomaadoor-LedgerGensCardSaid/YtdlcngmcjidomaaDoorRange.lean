/- A range over a function whose iterator keeps a variable of its own in block Bn, and whose body never leaves. No condition. -/
import Derived.Test.YtdlcngmcjidomaaDoorBase
import Derived.RangeFuncNested
import Derived.RangeFuncBound
import Derived.RangeFuncCalls
import Derived.RangeFuncLeaves
import Derived.Shelf.Abstract
import Derived.OwnWalkIn
import Derived.TacticsInMore
import Derived.LoopNIn
import Derived.LoopIn
namespace Go.Proofs.YtdlcngmcjidomaaDoor
set_option linter.unusedSimpArgs false
set_option linter.unusedVariables false
open Go.RowKit Go.Shelf

/-- How a round's body ends. -/
def boxPost {α : Type} (B Bn n₀ : Nat) (I : List α → World → Prop) (s : List α) (W : World) : Exit → Act → World → Prop
  | .normal, _, W' => KeepsFrom B W W' ∧ W'.heap[Bn]? = W.heap[Bn]? ∧ Below n₀ W W' ∧ I s W'
  | _, _, _ => False

section
variable {F : Fence} {n : Nat} {P : Program}
theorem putObj_below {n₀ l : Nat} (W : World) (o : Obj) (h : n₀ ≤ l) : Below n₀ W (W.putObj l o) :=
  ⟨rfl, rfl, rfl, by simp [World.putObj], fun k hk => World.putObj_heap_other (by omega)⟩
theorem wpIn_range_box {α : Type} {g : Operand} {ps : Array Tmp} {assign body : Code} {Q : Exit → Act → World → Prop} {a : Act} {w : World}
    (hro : F.round = none) (h1 : 1 ≤ n) {gf : Nat} {lb : Array Value} (hg : a.eval g = .func (.func gf) #[] lb) (hFg : F.fn gf) (eg : ∀ args w, (callFunc gf args).run P w = .ok (.enter gf args) w)
    {encs : α → Array Value} (hps : ∀ x, (encs x).size = ps.size) (Bn n₀ : Nat) (xs : List α) (hB : Bn < w.heap.size) (hn₀ : n₀ ≤ w.heap.size)
    (hseq : ∀ (l : Nat) (J : List α → World → Prop) (W : World), (∀ s A B, J s A → A.grownBy B (some Bn) → J s B) → J [] W → W.heap[Bn]? = w.heap[Bn]? → Below n₀ w W →
      (∀ pre x W1, J pre W1 → (pre ++ [x]) <+: xs → YieldAt F (n - 1 - 1) P l (encs x) W1 fun e W' => e = .returned (.bool true) ∧ J (pre ++ [x]) W' ∧ W'.heap[Bn]? = W1.heap[Bn]? ∧ Below n₀ W1 W') →
      CallsIn F (n - 1) P gf (#[.func (.yield l) #[] #[]] ++ lb) W fun e W' => (∃ v, e = .returned v) ∧ J xs W')
    (I : List α → World → Prop) (hI : OwnFrom w.heap.size I) (hIB : ∀ s A B, I s A → A.grownBy B (some Bn) → I s B) (h0 : I [] w) (a₁ : α → Act)
    (hassign : ∀ (l : Nat) (x : α) (W : World) (K : Act → World → Prop), K (a₁ x) W →
      assign.wpIn (F.inRound l) (n - 1 - 1) P (Exit.then K (fun _ _ _ => False)) { tmps := (ps.zip (encs x)).foldl (fun t (p, v) => t.setIfInBounds p v) a.tmps, defers := [] } W)
    (hbody : ∀ (l : Nat) (pre : List α) (x : α) (W : World), I pre W → (pre ++ [x]) <+: xs → body.wpIn (F.inRound l) (n - 1 - 1) P (boxPost w.heap.size Bn n₀ I (pre ++ [x]) W) (a₁ x) W)
    (hdone : ∀ (D : Nat) (W : World), w.heap.size ≤ D → I xs W → W.heap[D]? = some (.deferred (some [])) → Q .normal { a with defers := { target := .collected D, args := #[] } :: a.defers } W) :
    (Code.rangeFunc g ps assign body).wpIn F n P Q a w := by
  refine wpIn_rangeFunc fun fn hfn => ?_
  rw [hro]
  -- the loop's record, and the world in which the iterator is called
  generalize hq : (fun (s : LoopState) => ({ state := s, pending := none, fn, tmps := a.tmps, params := ps, assign, body, defers := w.heap.size } : Loop)) = rec
  have hrec : ∀ s, rec s = { state := s, pending := none, fn, tmps := a.tmps, params := ps, assign, body, defers := w.heap.size } := fun s => by rw [← hq]
  generalize hW1 : (w.alloc (.deferred (some []))).alloc (.loop (rec .ready)) = W1
  have b1 : Below w.heap.size w W1 := by rw [← hW1]; exact ((Below.refl _ w).alloc (Nat.le_refl _) _).alloc (by simp) _
  have hL : W1.heap[w.heap.size + 1]? = some (.loop (rec .ready)) := by
    have := heap_alloc_new (w.alloc (.deferred (some []))) (.loop (rec .ready))
    rw [World.size_alloc, hW1] at this; exact this
  have hD : W1.heap[w.heap.size]? = some (.deferred (some [])) := by
    rw [← hW1]; exact (Below.heap_alloc _ _ _ (by simp)).trans (heap_alloc_new w _)
  refine ⟨w.heap.size + 1, [{ target := .collected w.heap.size, args := #[] }], W1, { target := .fn (.func gf) lb, args := #[.func (.yield (w.heap.size + 1)) #[] #[]] }, W1, gf, #[.func (.yield (w.heap.size + 1)) #[] #[]] ++ lb, W1, ?_, ?_, ?_, ?_, fun _ => h1, ?_⟩
  · rw [← hW1, hrec]; exact run_enterLoop_outer _ _ _ _ _
  · simp only [resolve, hg]
    simp [go_sem]
  · intro f' hf'
    simp [Target.leads] at hf'
    subst hf'; exact hFg
  · simp [invoke, go_sem, eg]
  refine (hseq (w.heap.size + 1) (fun s W => I s W ∧ W.heap[w.heap.size + 1]? = some (.loop (rec .ready)) ∧ W.heap[w.heap.size]? = some (.deferred (some []))) W1 ?_ ⟨?_, hL, hD⟩ (b1.block Bn hB) (b1.mono hn₀) ?_).mono ?_
  · rintro s A B ⟨hs, hl, hd⟩ hgr
    have same : ∀ k o, A.heap[k]? = some o → k ≠ Bn → B.heap[k]? = some o := fun k o hk hne => (hgr.block k (Array.getElem?_eq_some_iff.1 hk).1 (by simpa using hne)).trans hk
    exact ⟨hIB s A B hs hgr, same _ _ hl (by omega), same _ _ hd (by omega)⟩
  · rw [← hW1]; exact hI.alloc _ (hI.alloc _ h0)
  · rintro pre x W ⟨hi, hl, hd⟩ hpre
    have hlt : w.heap.size + 1 < W.heap.size := (Array.getElem?_eq_some_iff.1 hl).1
    have hy := run_yield (P := P) (args := encs x) hl (by rw [hrec]; exact hps x)
    rw [hrec] at hy
    refine ⟨fn, _, assign, body, hy, roundIn_of_wpIn hfn (hassign _ x W _ ?_)⟩
    refine ⟨_, run_beginRound hl (by rw [hrec]), ?_⟩
    have hl2 : (W.putObj (w.heap.size + 1) (.loop { rec .ready with state := .busy })).heap[w.heap.size + 1]? = some (.loop { rec .ready with state := .busy }) := World.putObj_heap_same hlt
    have hd2 : (W.putObj (w.heap.size + 1) (.loop { rec .ready with state := .busy })).heap[w.heap.size]? = some (.deferred (some [])) := (World.putObj_heap_other (by omega)).trans hd
    have hB2 : (W.putObj (w.heap.size + 1) (.loop { rec .ready with state := .busy })).heap[Bn]? = W.heap[Bn]? := World.putObj_heap_other (by omega)
    have hb2 := putObj_below (n₀ := n₀) W (.loop { rec .ready with state := .busy }) (show n₀ ≤ w.heap.size + 1 by omega)
    refine wpIn_mono (hbody _ pre x _ (hI.putObj _ hi (by omega) hl rfl) hpre) ?_
    rintro e a3 W3 hp
    cases e with
    | normal =>
      obtain ⟨hk3, hB3, hb3, hi3⟩ := hp
      have hl3 := hk3.same _ _ (by omega) hl2 rfl
      have hd3 := hk3.same _ _ (Nat.le_refl _) hd2 rfl
      have hlt3 : w.heap.size + 1 < W3.heap.size := (Array.getElem?_eq_some_iff.1 hl3).1
      have hend := run_endRound (P := P) none hl3
      refine ⟨_, _, hend, rfl, ⟨hI.putObj _ hi3 (by omega) hl3 rfl, ?_, (World.putObj_heap_other (by omega)).trans hd3⟩, (World.putObj_heap_other (by omega)).trans (hB3.trans hB2), ?_⟩
      · rw [World.putObj_heap_same hlt3]
        simp only [hrec]
        rfl
      · exact (hb2.trans (hb3.mono (Nat.le_refl _))).trans (putObj_below _ _ (by omega))
    | _ => exact hp.elim
  · rintro e W2 ⟨⟨v, rfl⟩, hi, hl, hd⟩
    have hend := run_endLoop (P := P) hl (by rw [hrec]; simp)
    refine ⟨_, _, hend, ?_⟩
    rw [hrec]
    exact hdone _ _ (Nat.le_refl _) (hI.putObj _ hi (by omega) hl rfl) ((World.putObj_heap_other (by omega)).trans hd)
end
end Go.Proofs.YtdlcngmcjidomaaDoor
