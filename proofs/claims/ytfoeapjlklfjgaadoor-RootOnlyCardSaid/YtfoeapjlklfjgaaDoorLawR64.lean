/- From a law's walk to its row: an argument that is a slice of arrays of 64 bytes. No condition. -/
import Derived.Test.YtfoeapjlklfjgaaDoorLaw
import Derived.Deep.Slices
import Derived.Deep.MidRow
namespace Go.Proofs.YtfoeapjlklfjgaaDoor
set_option linter.unusedSimpArgs false
set_option linter.unusedVariables false
open Go.ChangeShapes Go.WideShapes Go.ChangeAt Go.RowKit Go.Deep

def rowV (l : List Nat) : List Value := l.map fun x : Nat => .int .u8 (x : Int)
theorem rowV_len (l : List Nat) : (rowV l).length = l.length := List.length_map ..
/-- A slice that reads as rows of 64 bytes each, by value. -/
structure Rows64 (w : World) (A : Option Addr) (n c : Nat) (xs : List (List Nat)) : Prop where
  len : xs.length = n
  at_ : 0 < n → ∃ b o, A = some ⟨b, o, none⟩ ∧ b < w.heap.size ∧ ∀ (j : Nat) (x : List Nat), xs[j]? = some x → w.rangeAt b (o + j * 64) (rowV x)
  ok : ∀ x ∈ xs, x.length = 64 ∧ ∀ y ∈ x, y < 256
section
variable {w w' : World} {A : Option Addr} {n c : Nat} {xs : List (List Nat)}
theorem range_below {b o : Nat} {cs : List Value} (h : w.rangeAt b o cs) (hbl : b < w.heap.size) (hb : Below w.heap.size w w') : w'.rangeAt b o cs := fun j v hv => (hb.cell (p := ⟨b, o + j, none⟩) hbl).trans (h j v hv)
theorem Rows64.below (h : Rows64 w A n c xs) (hb : Below w.heap.size w w') : Rows64 w' A n c xs :=
  ⟨h.len, fun hn => by
    obtain ⟨b, o, e, hbl, hc⟩ := h.at_ hn
    have := hb.size
    exact ⟨b, o, e, by omega, fun j x hx => range_below (hc j x hx) hbl hb⟩, h.ok⟩
theorem Rows64.get {k : Nat} (h : Rows64 w A n c xs) (hk : k < n) : ∃ b o x, A = some ⟨b, o, none⟩ ∧ b < w.heap.size ∧ xs[k]? = some x ∧ w.rangeAt b (o + k * 64) (rowV x) ∧ x.length = 64 ∧ ∀ y ∈ x, y < 256 := by
  obtain ⟨b, o, e, hb, hc⟩ := h.at_ (by omega)
  have hl : k < xs.length := by rw [h.len]; exact hk
  have := h.ok _ (List.getElem_mem hl)
  exact ⟨b, o, xs[k], e, hb, List.getElem?_eq_getElem hl, hc k _ (List.getElem?_eq_getElem hl), this.1, this.2⟩
end
section
variable {H : Type} {enc : TypeId × Value → H} {P : Program}
theorem byte_trod {W : World} {base : Nat} {spare : Nat → Bool} {held : Bool} {n : Nat} {e : TypeId} {c : Value} {y : DataW H × List MemPlace} (he : P.underlying e = some (.int .u8)) (h : DataW.trod enc P W base spare held n e [c] = some y) :
    ∃ x : Nat, c = .int .u8 (x : Int) ∧ x < 256 := by
  obtain ⟨z, hz, _, hw⟩ := DataW.trod_int he h
  have := wf_u8 z hw
  refine ⟨z.toNat, ?_, by omega⟩
  have e1 : c = .int .u8 z := by simpa using hz
  rw [e1]
  congr 1
  omega
theorem bytes_trod {W : World} {base : Nat} {spare : Nat → Bool} {held : Bool} {fuel n : Nat} {t e : TypeId} {cs : List Value} {x : DataW H × List MemPlace} (ht : P.underlying t = some (.array n e)) (he : P.underlying e = some (.int .u8)) (hce : P.cellsOf e = 1) (hct : P.cellsOf t = n)
    (h : DataW.trod enc P W base spare held fuel t cs = some x) : ∃ l : List Nat, cs = rowV l ∧ l.length = n ∧ ∀ y ∈ l, y < 256 := by
  obtain ⟨xs, m, _, _, hl, hx, hi⟩ := DataW.trod_array ht h
  rw [hct] at hl
  have hex : ∀ i, i < n → ∃ x : Nat, cs[i]? = some (.int .u8 (x : Int)) ∧ x < 256 := by
    intro i hin
    have h1 := hi i hin
    rw [hce, Nat.mul_one] at h1
    have hlt : i < cs.length := by omega
    have hd : (cs.drop i).take 1 = [cs[i]] := by
      rw [List.drop_eq_getElem_cons hlt]; rfl
    rw [hd, List.getElem?_eq_getElem (by omega)] at h1
    obtain ⟨z, hz, hzl⟩ := byte_trod he h1
    exact ⟨z, by rw [List.getElem?_eq_getElem hlt, hz], hzl⟩
  obtain ⟨f, hf⟩ := choose_lt hex
  refine ⟨(List.range n).map f, ?_, by simp, fun y hy => ?_⟩
  · apply List.ext_getElem?
    intro i
    unfold rowV
    rw [List.getElem?_map, List.getElem?_map]
    by_cases hin : i < n
    · rw [(hf i hin).1, List.getElem?_range hin]; rfl
    · rw [List.getElem?_eq_none (by omega), List.getElem?_eq_none (by simpa using hin)]; rfl
  · obtain ⟨i, hi', rfl⟩ := List.mem_map.1 hy
    exact (hf i (by simpa using hi')).2
end
set_option maxRecDepth 100000 in
set_option maxHeartbeats 1600000 in
/-- An argument that is a slice of arrays of 64 bytes. -/
theorem arg_r64 {H : Type} {enc : TypeId × Value → H} {W : World} {r : Reach} {b0 : Nat} {v : Value} {d : DataW H} {p : List MemPlace} (hv : Value.okWide Tryd.prog W r b0 60 v) (h : DataW.Trod enc Tryd.prog W 0 (fun _ => true) true 60 v d p) (hlt : ∀ x ∈ p, x.block < W.heap.size) :
    ∃ A n c xs, v = .slice A n c ∧ Rows64 W A n c xs ∧ n ≤ maxLen := by
  obtain ⟨a0, len, cap, rfl⟩ := okWide_slice Tryd.underlying60 hv
  obtain ⟨fuel, hf⟩ := h
  rcases open_slice Tryd.underlying60 hf with ⟨hcs, hx⟩ | ⟨a, len', cap', m, k, D, Pl, hcs, _, hl, hm, hmm, hx, hi⟩
  · simp [Value.cells] at hcs
    obtain ⟨rfl, rfl, rfl⟩ := hcs
    exact ⟨none, 0, 0, [], rfl, ⟨rfl, fun h => absurd h (by omega), fun _ h => by cases h⟩, Nat.zero_le _⟩
  · simp [Value.cells] at hcs
    obtain ⟨rfl, rfl, rfl⟩ := hcs
    simp only [if_true] at hmm
    subst hmm
    simp only [Prod.mk.injEq] at hx
    obtain ⟨rfl, rfl⟩ := hx
    have hC : Tryd.prog.cellsOf 61 = 64 := by kernel_rfl
    rw [hC] at hi
    have hrow : ∀ i, i < m → ∃ x : List Nat, (x.length = 64 ∧ ∀ y ∈ x, y < 256) ∧ ∀ j v, (rowV x)[j]? = some v → W.cell? ((a.add (i * 64)).add j) = some v := by
      intro i him
      obtain ⟨cs', h1, h2⟩ := hi i him
      obtain ⟨_, hlen, hat⟩ := World.cells?_some h1
      obtain ⟨l, rfl, hll, hlb⟩ := bytes_trod Tryd.underlying61 Tryd.underlying5 (by kernel_rfl) hC h2
      refine ⟨l, ⟨hll, hlb⟩, fun j v hjv => ?_⟩
      have hj : j < 64 := by
        have := (List.getElem?_eq_some_iff.1 hjv).1
        rw [rowV_len] at this
        omega
      rw [hat j hj, hjv]
    obtain ⟨f, hf'⟩ := choose_lt hrow
    refine ⟨some a, len, m, (List.range len).map f, rfl, ⟨by simp, fun hn => ?_, fun x hx => ?_⟩, by omega⟩
    · obtain ⟨b, off, spot⟩ := a
      have hr0 := hf' 0 (by omega)
      have h0 := hr0.2 0 _ (List.getElem?_eq_getElem (by rw [rowV_len, hr0.1.1]; decide))
      have hspot : spot = none := by simpa [Addr.add] using World.cell?_spot h0
      subst hspot
      refine ⟨b, off, rfl, hlt (.cell b off) (List.mem_append_left _ (MemPlace.mem_row.2 ⟨0, by rw [hC]; omega, by simp⟩)), fun j x hx => ?_⟩
      rw [List.getElem?_map] at hx
      obtain ⟨i, hi', rfl⟩ := Option.map_eq_some_iff.1 hx
      have hij : i = j ∧ j < len := by
        obtain ⟨h1, h2⟩ := List.getElem?_eq_some_iff.1 hi'
        simp at h1 h2
        omega
      obtain ⟨rfl, hjl⟩ := hij
      intro q v hqv
      have := (hf' i (by omega)).2 q v hqv
      simpa only [add_plain] using this
    · obtain ⟨i, hi', rfl⟩ := List.mem_map.1 hx
      have : i < len := by simpa using hi'
      exact (hf' i (by omega)).1
end Go.Proofs.YtfoeapjlklfjgaaDoor
