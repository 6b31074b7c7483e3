/- From a law's walk to its row: an argument that is a slice of rows of bytes. No condition. -/
import Derived.Test.YtdlcngmcjidomaaDoorLaw
import Derived.Test.YtdlcngmcjidomaaDoorDisk
import Derived.Lib.SmallJoins
import Derived.Deep.Slices
namespace Go.Proofs.YtdlcngmcjidomaaDoor
set_option linter.unusedSimpArgs false
set_option linter.unusedVariables false
open Go.ChangeShapes Go.WideShapes Go.ChangeAt Go.RowKit Go.Joins Go.Deep

section
variable {H : Type} {enc : TypeId × Value → H} {P : Program}
theorem cell_intsR {W : World} {fuel : Nat} {t e : TypeId} {kd : IntKind} {a0 : Option Addr} {n c : Nat} {y : DataW H × List MemPlace} (lim : Nat) (ht : P.underlying t = some (.slice e)) (he : P.underlying e = some (.int kd)) (hc : P.cellsOf e = 1)
    (hk : ∀ z : Int, (Lit.int kd z).wf = true → 0 ≤ z ∧ z < lim)
    (hf : DataW.trod enc P W 0 (fun _ => true) true fuel t [.slice a0 n c] = some y) (hlt : ∀ x ∈ y.2, x.block < W.heap.size) :
    ∃ l, Ints W kd lim a0 n c l ∧ n ≤ maxLen := by
  rcases open_ints ht he hc hf with ⟨hcs, hx⟩ | ⟨a, len', cap', zs, hcs, _, hl, hm, hz, hx, hcell, hwz⟩
  · simp only [List.cons.injEq, Value.slice.injEq, and_true] at hcs
    obtain ⟨rfl, rfl, rfl⟩ := hcs
    exact ⟨[], Ints.nil_ .., Nat.zero_le _⟩
  · simp only [List.cons.injEq, Value.slice.injEq, and_true] at hcs
    obtain ⟨rfl, rfl, rfl⟩ := hcs
    obtain ⟨y1, y2⟩ := y
    simp only [Prod.mk.injEq] at hx
    obtain ⟨rfl, rfl⟩ := hx
    simp only [if_true] at hz
    have hnat : (zs.map Int.toNat).map (fun x : Nat => Value.int kd (x : Int)) = zs.map (Value.int kd) := by
      rw [List.map_map]
      refine List.map_congr_left fun z hz => ?_
      have := (hk z (hwz z hz)).1
      simp only [Function.comp]
      congr 1
      omega
    refine ⟨(zs.map Int.toNat).take n, ⟨⟨by simp; omega, hl, fun hn => ?_⟩, fun x hx => ?_⟩, by omega⟩
    · have h0 := hcell 0 (by omega)
      obtain ⟨b, off, spot⟩ := a
      have hspot : spot = none := by simpa [Addr.add] using World.cell?_spot h0
      subst hspot
      refine ⟨b, off, rfl, hlt (.cell b off) (MemPlace.mem_row.2 ⟨0, by omega, by simp⟩), fun j u hu => ?_⟩
      rw [List.map_take, hnat, ← List.map_take, List.getElem?_map] at hu
      obtain ⟨z, hz', rfl⟩ := Option.map_eq_some_iff.1 hu
      rw [List.getElem?_take] at hz'
      split at hz'
      · have hj := (List.getElem?_eq_some_iff.1 hz').1
        rw [← add_plain, hcell j hj, List.getD_eq_getElem?_getD, hz']
        rfl
      · cases hz'
    · obtain ⟨z, hz', rfl⟩ := List.mem_map.1 (List.mem_of_mem_take hx)
      have := hk z (hwz z hz')
      omega
end
/-- A slice that reads as rows of bytes. -/
structure BArg (w : World) (A : Option Addr) (n c : Nat) (xs : List BEl) : Prop where
  len : xs.length = n
  at_ : 0 < n → ∃ b o, A = some ⟨b, o, none⟩ ∧ b < w.heap.size ∧ ∀ (j : Nat) (x : BEl), xs[j]? = some x → w.cell? ⟨b, o + j, none⟩ = some x.v
  ok : ∀ x ∈ xs, Ints w .u8 256 x.A x.n x.c x.l
instance : Inhabited BEl := ⟨⟨none, 0, 0, []⟩⟩
section
variable {w w' : World} {A : Option Addr} {n c : Nat} {xs : List BEl}
theorem BArg.below (h : BArg w A n c xs) (hb : Below w.heap.size w w') : BArg w' A n c xs :=
  ⟨h.len, fun hn => by
    obtain ⟨b, o, e, hbl, hc⟩ := h.at_ hn
    have := hb.size
    exact ⟨b, o, e, by omega, fun j x hx => (hb.cell (p := ⟨b, o + j, none⟩) hbl).trans (hc j x hx)⟩, fun x hx => (h.ok x hx).below hb⟩
theorem BArg.get {k : Nat} (h : BArg w A n c xs) (hk : k < n) : ∃ b o x, A = some ⟨b, o, none⟩ ∧ xs[k]? = some x ∧ w.cell? ⟨b, o + k, none⟩ = some (.slice x.A x.n x.c) ∧ Ints w .u8 256 x.A x.n x.c x.l := by
  obtain ⟨b, o, e, hb, hc⟩ := h.at_ (by omega)
  have hl : k < xs.length := by rw [h.len]; exact hk
  exact ⟨b, o, xs[k], e, List.getElem?_eq_getElem hl, hc k _ (List.getElem?_eq_getElem hl), h.ok _ (List.getElem_mem hl)⟩
end
set_option maxRecDepth 100000 in
set_option maxHeartbeats 1600000 in
/-- An argument that is a slice of rows of bytes. -/
theorem arg_bss {H : Type} {enc : TypeId × Value → H} {W : World} {r : Reach} {b0 : Nat} {v : Value} {d : DataW H} {p : List MemPlace} (hv : Value.okWide Tryd.prog W r b0 32 v) (h : DataW.Trod enc Tryd.prog W 0 (fun _ => true) true 32 v d p) (hlt : ∀ x ∈ p, x.block < W.heap.size) :
    ∃ A n c xs, v = .slice A n c ∧ BArg W A n c xs ∧ n ≤ maxLen := by
  obtain ⟨a0, len, cap, rfl⟩ := okWide_slice Tryd.underlying32 hv
  obtain ⟨fuel, hf⟩ := h
  rcases open_slice Tryd.underlying32 hf with ⟨hcs, hx⟩ | ⟨a, len', cap', m, k, D, Pl, hcs, _, hl, hm, hmm, hx, hi⟩
  · simp [Value.cells] at hcs
    obtain ⟨rfl, rfl, rfl⟩ := hcs
    exact ⟨none, 0, 0, [], rfl, ⟨rfl, fun h => absurd h (by omega), fun _ h => by cases h⟩, Nat.zero_le _⟩
  · simp [Value.cells] at hcs
    obtain ⟨rfl, rfl, rfl⟩ := hcs
    simp only [if_true] at hmm
    subst hmm
    simp only [Prod.mk.injEq] at hx
    obtain ⟨rfl, rfl⟩ := hx
    have hC : Tryd.prog.cellsOf 22 = 1 := by kernel_rfl
    rw [hC] at hi
    have hrow : ∀ i, i < m → ∃ x : BEl, Ints W .u8 256 x.A x.n x.c x.l ∧ W.cell? (a.add (i * 1)) = some x.v := by
      intro i him
      obtain ⟨cs', h1, h2⟩ := hi i him
      obtain ⟨_, hlen, hat⟩ := World.cells?_some h1
      match cs', hlen with
      | [c0], _ =>
        obtain ⟨A, n, c, hs⟩ := slice_form Tryd.underlying22 h2
        cases hs
        obtain ⟨L, hL, _⟩ := cell_intsR 256 Tryd.underlying22 Tryd.underlying5 (by kernel_rfl) wf_u8 h2 (fun x hx => hlt x (List.mem_append_right _ (List.mem_flatMap.2 ⟨i, List.mem_range.2 him, hx⟩)))
        refine ⟨⟨A, n, c, L⟩, hL, ?_⟩
        have := hat 0 (by omega)
        simpa [Addr.add, BEl.v] using this
    obtain ⟨f, hf'⟩ := choose_lt hrow
    refine ⟨some a, len, m, (List.range len).map f, rfl, ⟨by simp, fun hn => ?_, fun x hx => ?_⟩, by omega⟩
    · obtain ⟨b, off, spot⟩ := a
      have h0 := (hf' 0 (by omega)).2
      have hspot : spot = none := by simpa [Addr.add] using World.cell?_spot h0
      subst hspot
      refine ⟨b, off, rfl, hlt (.cell b off) (List.mem_append_left _ (MemPlace.mem_row.2 ⟨0, by rw [hC]; omega, by simp⟩)), fun j x hx => ?_⟩
      rw [List.getElem?_map] at hx
      obtain ⟨i, hi', rfl⟩ := Option.map_eq_some_iff.1 hx
      have hij : i = j ∧ j < len := by
        obtain ⟨h1, h2⟩ := List.getElem?_eq_some_iff.1 hi'
        simp at h1 h2
        omega
      obtain ⟨rfl, hjl⟩ := hij
      have := (hf' i (by omega)).2
      simpa only [add_plain, Nat.mul_one] using this
    · obtain ⟨i, hi', rfl⟩ := List.mem_map.1 hx
      have : i < len := by simpa using hi'
      exact (hf' i (by omega)).1
end Go.Proofs.YtdlcngmcjidomaaDoor
