/- From a law's walk to its row: arguments that are rows of bytes, and lists of such, with their reach. No condition. -/
import Derived.Test.YtdlcngmcjidomaaDoorLawAct7
namespace Go.Proofs.YtdlcngmcjidomaaDoor
set_option linter.unusedSimpArgs false
set_option linter.unusedVariables false
open Go.ChangeShapes Go.WideShapes Go.ChangeAt Go.RowKit Go.Joins Go.Deep

set_option maxRecDepth 100000 in
theorem arg_bssw {H : Type} {enc : TypeId × Value → H} {W : World} {r : Reach} {b0 : Nat} {v : Value} {d : DataW H} {p : List MemPlace} (hv : Value.okWide Tryd.prog W r b0 32 v) (h : DataW.Trod enc Tryd.prog W 0 (fun _ => true) true 32 v d p) (hlt : ∀ x ∈ p, x.block < W.heap.size) :
    ∃ A n c xs, v = .slice A n c ∧ BArg W A n c xs ∧ n ≤ maxLen ∧ ∀ Q : Nat, (∀ z ∈ d.weights Tryd.prog 32, z ≤ Q) → n ≤ Q ∧ ∀ x ∈ xs, x.n ≤ Q := by
  obtain ⟨a0, len, cap, rfl⟩ := okWide_slice Tryd.underlying32 hv
  obtain ⟨fuel, hf⟩ := h
  obtain ⟨xs, h1, h2, h3⟩ := cell_bss hf hlt
  exact ⟨a0, len, cap, xs, rfl, h1, h2.1, h3⟩

structure Bss where
  (A : Option Addr) (n c : Nat) (xs : List BEl)
instance : Inhabited Bss := ⟨⟨none, 0, 0, []⟩⟩
/-- A slice that reads as lists of rows of bytes. -/
structure Lists (w : World) (A : Option Addr) (n c : Nat) (ls : List Bss) : Prop where
  len : ls.length = n
  at_ : 0 < n → ∃ b o, A = some ⟨b, o, none⟩ ∧ b < w.heap.size ∧ ∀ (j : Nat) (x : Bss), ls[j]? = some x → w.cell? ⟨b, o + j, none⟩ = some (.slice x.A x.n x.c)
  ok : ∀ x ∈ ls, BArg w x.A x.n x.c x.xs
section
variable {w w' : World} {A : Option Addr} {n c : Nat} {ls : List Bss}
theorem Lists.below (h : Lists w A n c ls) (hb : Below w.heap.size w w') : Lists w' A n c ls :=
  ⟨h.len, fun hn => by
    obtain ⟨b, o, e, hbl, hc⟩ := h.at_ hn
    have := hb.size
    exact ⟨b, o, e, by omega, fun j x hx => (hb.cell (p := ⟨b, _, none⟩) hbl).trans (hc j x hx)⟩, fun x hx => (h.ok x hx).below hb⟩
theorem Lists.get {k : Nat} (h : Lists w A n c ls) (hk : k < n) : ∃ b o x, A = some ⟨b, o, none⟩ ∧ ls[k]? = some x ∧ w.cell? ⟨b, o + k, none⟩ = some (.slice x.A x.n x.c) ∧ BArg w x.A x.n x.c x.xs := by
  obtain ⟨b, o, e, hb, hc⟩ := h.at_ (by omega)
  have hl : k < ls.length := by rw [h.len]; exact hk
  exact ⟨b, o, ls[k], e, List.getElem?_eq_getElem hl, hc k _ (List.getElem?_eq_getElem hl), h.ok _ (List.getElem_mem hl)⟩
end
set_option maxRecDepth 100000 in
set_option maxHeartbeats 1600000 in
theorem arg_lists {H : Type} {enc : TypeId × Value → H} {W : World} {r : Reach} {b0 : Nat} {v : Value} {d : DataW H} {p : List MemPlace} (hv : Value.okWide Tryd.prog W r b0 59 v) (h : DataW.Trod enc Tryd.prog W 0 (fun _ => true) true 59 v d p) (hlt : ∀ x ∈ p, x.block < W.heap.size) :
    ∃ A n c ls, v = .slice A n c ∧ Lists W A n c ls ∧ n ≤ maxLen ∧ ∀ Q : Nat, (∀ z ∈ d.weights Tryd.prog 59, z ≤ Q) → ∀ x ∈ ls, x.n ≤ Q ∧ ∀ e ∈ x.xs, e.n ≤ Q := by
  obtain ⟨a0, len, cap, rfl⟩ := okWide_slice Tryd.underlying59 hv
  obtain ⟨fuel, hf⟩ := h
  rcases open_slice Tryd.underlying59 hf with ⟨hcs, hx⟩ | ⟨a, len', cap', m, k, D, Pl, hcs, _, hl, hm, hmm, hx, hi⟩
  · simp [Value.cells] at hcs
    obtain ⟨rfl, rfl, rfl⟩ := hcs
    exact ⟨none, 0, 0, [], rfl, ⟨rfl, fun h => absurd h (by omega), fun _ h => by cases h⟩, Nat.zero_le _, fun _ _ _ h => by cases h⟩
  · simp [Value.cells] at hcs
    obtain ⟨rfl, rfl, rfl⟩ := hcs
    simp only [if_true] at hmm
    subst hmm
    simp only [Prod.mk.injEq] at hx
    obtain ⟨rfl, rfl⟩ := hx
    have hC : Tryd.prog.cellsOf 32 = 1 := by kernel_rfl
    rw [hC] at hi
    have hrow : ∀ i, i < m → ∃ x : Bss, BArg W x.A x.n x.c x.xs ∧ W.cell? (a.add (i * 1)) = some (.slice x.A x.n x.c) ∧ ∀ Q : Nat, (∀ z ∈ (D i).weights Tryd.prog 32, z ≤ Q) → x.n ≤ Q ∧ ∀ e ∈ x.xs, e.n ≤ Q := by
      intro i him
      obtain ⟨cs', h1, h2⟩ := hi i him
      obtain ⟨_, hlen, hat⟩ := World.cells?_some h1
      match cs', hlen with
      | [c0], _ =>
        obtain ⟨A, n, c, hs⟩ := slice_form Tryd.underlying32 h2
        cases hs
        obtain ⟨xs, hR, _, hw⟩ := cell_bss h2 (fun x hx => hlt x (List.mem_append_right _ (List.mem_flatMap.2 ⟨i, List.mem_range.2 him, hx⟩)))
        refine ⟨⟨A, n, c, xs⟩, hR, ?_, hw⟩
        have := hat 0 (by omega)
        simpa [Addr.add] using this
    obtain ⟨f, hf'⟩ := choose_lt hrow
    refine ⟨some a, len, m, (List.range len).map f, rfl, ⟨by simp, fun hn => ?_, fun x hx => ?_⟩, by omega, fun Q hQ x hx => ?_⟩
    · obtain ⟨b, off, spot⟩ := a
      have h0 := (hf' 0 (by omega)).2.1
      have hspot : spot = none := by simpa [Addr.add] using World.cell?_spot h0
      subst hspot
      refine ⟨b, off, rfl, hlt (.cell b off) (List.mem_append_left _ (MemPlace.mem_row.2 ⟨0, by rw [hC]; omega, by simp⟩)), fun j x hx => ?_⟩
      rw [List.getElem?_map] at hx
      obtain ⟨i, hi', rfl⟩ := Option.map_eq_some_iff.1 hx
      have hij : i = j ∧ j < len := by
        obtain ⟨h1, h2⟩ := List.getElem?_eq_some_iff.1 hi'
        simp at h1 h2
        omega
      obtain ⟨rfl, hjl⟩ := hij
      have := (hf' i (by omega)).2.1
      simpa only [add_plain, Nat.mul_one] using this
    · obtain ⟨i, hi', rfl⟩ := List.mem_map.1 hx
      have : i < len := by simpa using hi'
      exact (hf' i (by omega)).1
    · obtain ⟨i, hi', rfl⟩ := List.mem_map.1 hx
      have hi2 : i < len := by simpa using hi'
      refine (hf' i (by omega)).2.2 Q (fun z hz => hQ z ?_)
      unfold DataW.weights
      rw [Tryd.underlying59]
      exact List.mem_cons_of_mem _ (List.mem_append_left _ (weightsAll_mem (List.mem_map.2 ⟨i, hi', rfl⟩) hz))
end Go.Proofs.YtdlcngmcjidomaaDoor
