/- From a law's walk to its row: an argument that is a slice of whole numbers. No condition. -/
import Derived.Test.YtodgchflhimjfaaDoorG9
import Derived.Test.YtodgchflhimjfaaDoorHZRows
import Derived.Deep.Slices
namespace Go.Proofs.YtodgchflhimjfaaDoor
open Go.ChangeShapes Go.WideShapes Go.ChangeAt Go.RowKit Go.Joins Go.Deep

set_option maxRecDepth 100000 in
set_option maxHeartbeats 1600000 in
theorem arg_zs {H : Type} {enc : TypeId × Value → H} {W : World} {r : Reach} {b0 : Nat} {v : Value} {d : DataW H} {p : List MemPlace} (hv : Value.okWide Tryd.prog W r b0 49 v) (h : DataW.Trod enc Tryd.prog W 0 (fun _ => true) true 49 v d p) (hlt : ∀ x ∈ p, x.block < W.heap.size) :
    ∃ A n c xs, v = .slice A n c ∧ ZRows W A n c xs ∧ n ≤ maxLen := by
  obtain ⟨a0, len, cap, rfl⟩ := okWide_slice Tryd.underlying49 hv
  obtain ⟨fuel, hf⟩ := h
  rcases open_slice Tryd.underlying49 hf with ⟨hcs, hx⟩ | ⟨a, len', cap', m, k, D, Pl, hcs, _, hl, hm, hmm, hx, hi⟩
  · simp [Value.cells] at hcs
    obtain ⟨rfl, rfl, rfl⟩ := hcs
    exact ⟨none, 0, 0, [], rfl, ⟨rfl, fun h => absurd h (by omega), fun _ h => by cases h⟩, Nat.zero_le _⟩
  · simp [Value.cells] at hcs
    obtain ⟨rfl, rfl, rfl⟩ := hcs
    simp only [if_true] at hmm
    subst hmm
    simp only [Prod.mk.injEq] at hx
    obtain ⟨rfl, rfl⟩ := hx
    have hC : Tryd.prog.cellsOf 24 = 2 := by kernel_rfl
    rw [hC] at hi
    have hrow : ∀ i, i < m → ∃ x : ZEl, (Lim W x.A x.n x.c x.l ∧ x.n ≤ maxLen) ∧ W.cell? (a.add (i * 2)) = some (.bool x.b) ∧ W.cell? ((a.add (i * 2)).add 1) = some (.slice x.A x.n x.c) := by
      intro i him
      obtain ⟨cs', h1, h2⟩ := hi i him
      obtain ⟨_, hlen, hat⟩ := World.cells?_some h1
      match cs', hlen with
      | [c0, c1], _ =>
        obtain ⟨y0, y1, n', hy, _, t0, t1⟩ := trod_struct2 Tryd.underlying24 h2
        obtain ⟨b, hb, _⟩ := DataW.trod_bool Tryd.underlying4 (show DataW.trod enc Tryd.prog W 0 (fun _ => true) true n' 4 [c0] = some y0 from t0)
        have t1' : DataW.trod enc Tryd.prog W 0 (fun _ => true) true n' 22 [c1] = some y1 := t1
        obtain ⟨A, l, c, hs⟩ := slice_form Tryd.underlying22 t1'
        cases hb
        cases hs
        have hin : ∀ x ∈ y1.2, x.block < W.heap.size := fun x hx => hlt x (List.mem_append_right _ (List.mem_flatMap.2 ⟨i, List.mem_range.2 him, by
          have : Pl i = y0.2 ++ y1.2 := congrArg Prod.snd hy
          rw [this]; exact List.mem_append_right _ hx⟩))
        obtain ⟨L, hL, hmx⟩ := cell_ints 4294967296 Tryd.underlying22 Tryd.underlying54 (by kernel_rfl) wf_u32 t1' hin
        refine ⟨⟨b, A, l, c, L⟩, ⟨hL, hmx⟩, ?_, hat 1 (by omega)⟩
        have := hat 0 (by omega)
        simpa [Addr.add] using this
    obtain ⟨f, hf'⟩ := choose_lt hrow
    refine ⟨some a, len, m, (List.range len).map f, rfl, ⟨by simp, fun hn => ?_, fun x hx => ?_⟩, by omega⟩
    · obtain ⟨b, off, spot⟩ := a
      have h0 := (hf' 0 (by omega)).2.1
      have hspot : spot = none := by simpa [Addr.add] using World.cell?_spot h0
      subst hspot
      refine ⟨b, off, rfl, hlt (.cell b off) (List.mem_append_left _ (MemPlace.mem_row.2 ⟨0, by rw [hC]; omega, by simp⟩)), fun j x hx => ?_⟩
      rw [List.getElem?_map] at hx
      obtain ⟨i, hi', rfl⟩ := Option.map_eq_some_iff.1 hx
      have hij : i = j ∧ j < len := by
        obtain ⟨h1, h2⟩ := List.getElem?_eq_some_iff.1 hi'
        simp at h1 h2
        omega
      obtain ⟨rfl, hjl⟩ := hij
      have := (hf' i (by omega)).2
      simpa only [add_plain] using this
    · obtain ⟨i, hi', rfl⟩ := List.mem_map.1 hx
      have : i < len := by simpa using hi'
      exact (hf' i (by omega)).1
end Go.Proofs.YtodgchflhimjfaaDoor
