/- Arguments that are arrays of bytes, and slices of them, opened. No condition. -/
import Derived.Test.YtjdgkeajjmoglaaLaw
import Derived.Test.YtjdgkeajjmoglaaCrcLinear
import Derived.Deep.Slices
import Derived.Laws.IdiomArrays
import Derived.Lib.SmallJoins
namespace Go.Proofs.Ytjdgkeajjmoglaa
open Go.ChangeShapes Go.WideShapes Go.ChangeAt Go.RowKit Go.Deep

section
variable {H : Type} {enc : TypeId × Value → H} {P : Program}
theorem byte_of_trod {W : World} {base : Nat} {spare : Nat → Bool} {held : Bool} {n : Nat} {e : TypeId} {c : Value} {y : DataW H × List MemPlace} (he : P.underlying e = some (.int .u8)) (h : DataW.trod enc P W base spare held n e [c] = some y) :
    ∃ x : Nat, c = .int .u8 (x : Int) ∧ x < 256 := by
  obtain ⟨z, hz, _, hw⟩ := DataW.trod_int he h
  have := wf_u8 z hw
  refine ⟨z.toNat, ?_, by omega⟩
  have e1 : c = .int .u8 z := by simpa using hz
  rw [e1]
  congr 1
  omega
theorem arg_rows3 {W : World} {r : Reach} {b0 : Nat} {t e u : TypeId} {v : Value} {d : DataW H} {p : List MemPlace} (ht : P.underlying t = some (.slice e)) (he : P.underlying e = some (.array 3 u)) (hu : P.underlying u = some (.int .u8))
    (hc : P.cellsOf e = 3) (hcu : P.cellsOf u = 1)
    (hv : Value.okWide P W r b0 t v) (h : DataW.Trod enc P W 0 (fun _ => true) true t v d p) (hlt : ∀ x ∈ p, x.block < W.heap.size) :
    ∃ A n c l, v = .slice A n c ∧ Rows3 W A n c l ∧ n ≤ maxLen := by
  obtain ⟨a0, len, cap, rfl⟩ := okWide_slice ht hv
  obtain ⟨fuel, hf⟩ := h
  rcases open_slice ht hf with ⟨hcs, hx⟩ | ⟨a, len', cap', m, k, D, Pl, hcs, _, hl, hm, hmm, hx, hi⟩
  · simp [Value.cells] at hcs
    obtain ⟨rfl, rfl, rfl⟩ := hcs
    exact ⟨none, 0, 0, [], rfl, ⟨rfl, fun h => absurd h (by omega), fun _ h => by cases h⟩, Nat.zero_le _⟩
  · simp [Value.cells] at hcs
    obtain ⟨rfl, rfl, rfl⟩ := hcs
    simp only [if_true] at hmm
    subst hmm
    simp only [Prod.mk.injEq] at hx
    obtain ⟨rfl, rfl⟩ := hx
    rw [hc] at hi
    have hrow : ∀ i, i < m → ∃ x : Nat × Nat × Nat, (x.1 < 256 ∧ x.2.1 < 256 ∧ x.2.2 < 256) ∧ W.cell? (a.add (i * 3)) = some (.int .u8 (x.1 : Int)) ∧ W.cell? ((a.add (i * 3)).add 1) = some (.int .u8 (x.2.1 : Int)) ∧ W.cell? ((a.add (i * 3)).add 2) = some (.int .u8 (x.2.2 : Int)) := by
      intro i him
      obtain ⟨cs', h1, h2⟩ := hi i him
      obtain ⟨_, hlen, hat⟩ := World.cells?_some h1
      match cs', hlen with
      | [c0, c1, c2], _ =>
        obtain ⟨y0, y1, y2, n', _, t0, t1, t2⟩ := trod_array3 he hcu h2
        obtain ⟨x0, rfl, l0⟩ := byte_of_trod hu t0
        obtain ⟨x1, rfl, l1⟩ := byte_of_trod hu t1
        obtain ⟨x2, rfl, l2⟩ := byte_of_trod hu t2
        refine ⟨(x0, x1, x2), ⟨l0, l1, l2⟩, ?_, hat 1 (by omega), hat 2 (by omega)⟩
        have := hat 0 (by omega)
        simpa [Addr.add] using this
    obtain ⟨f, hf'⟩ := choose_lt hrow
    refine ⟨some a, len, m, (List.range len).map f, rfl, ⟨by simp, fun hn => ?_, fun x hx => ?_⟩, by omega⟩
    · obtain ⟨b, off, spot⟩ := a
      have h0 := (hf' 0 (by omega)).2.1
      have hspot : spot = none := by simpa [Addr.add] using World.cell?_spot h0
      subst hspot
      refine ⟨b, off, rfl, hlt (.cell b off) (List.mem_append_left _ (MemPlace.mem_row.2 ⟨0, by rw [hc]; omega, by simp⟩)), fun j x hx => ?_⟩
      rw [List.getElem?_map] at hx
      obtain ⟨i, hi', rfl⟩ := Option.map_eq_some_iff.1 hx
      have hij : i = j ∧ j < len := by
        obtain ⟨h1, h2⟩ := List.getElem?_eq_some_iff.1 hi'
        simp at h1 h2
        omega
      obtain ⟨rfl, hjl⟩ := hij
      have := (hf' i (by omega)).2
      simpa only [add_plain] using this
    · obtain ⟨i, hi', rfl⟩ := List.mem_map.1 hx
      have : i < len := by simpa using hi'
      exact (hf' i (by omega)).1
/-- Four bytes by value. -/
theorem arg_arr4 {W : World} {r : Reach} {b0 : Nat} {t u : TypeId} {v : Value} {d : DataW H} {p : List MemPlace} (ht : P.underlying t = some (.array 4 u)) (hu : P.underlying u = some (.int .u8)) (hc : P.cellsOf t = 4) (hcu : P.cellsOf u = 1)
    (hv : Value.okWide P W r b0 t v) (h : DataW.Trod enc P W 0 (fun _ => true) true t v d p) :
    ∃ x0 x1 x2 x3 : Nat, v = .agg #[.int .u8 (x0 : Int), .int .u8 (x1 : Int), .int .u8 (x2 : Int), .int .u8 (x3 : Int)] ∧ x0 < 256 ∧ x1 < 256 ∧ x2 < 256 ∧ x3 < 256 := by
  have hv' : ∃ cs, v = .agg cs ∧ cs.size = P.cellsOf t := by
    simp only [Value.okWide, ht] at hv
    obtain ⟨cs, h1, h2, _⟩ := hv
    exact ⟨cs, h1, h2⟩
  obtain ⟨cs, rfl, hsz⟩ := hv'
  obtain ⟨c0, c1, c2, c3, rfl⟩ := Go.Joins.array4 (hsz.trans hc)
  obtain ⟨fuel, hf⟩ := h
  obtain ⟨y0, y1, y2, y3, n, _, t0, t1, t2, t3⟩ := trod_array4 ht hcu hf
  obtain ⟨x0, rfl, l0⟩ := byte_of_trod hu t0
  obtain ⟨x1, rfl, l1⟩ := byte_of_trod hu t1
  obtain ⟨x2, rfl, l2⟩ := byte_of_trod hu t2
  obtain ⟨x3, rfl, l3⟩ := byte_of_trod hu t3
  exact ⟨x0, x1, x2, x3, rfl, l0, l1, l2, l3⟩
end
end Go.Proofs.Ytjdgkeajjmoglaa
