/- From a law's walk to its row: an argument that is a slice of small signed numbers. No condition. -/
import Derived.Test.YtkjmccicdjkccaaLawAct
namespace Go.Proofs.Ytkjmccicdjkccaa
open Go.ChangeShapes Go.WideShapes Go.ChangeAt Go.RowKit Go.Joins Go.Deep

theorem wf_i8 {z : Int} (h : (Lit.int .i8 z).wf = true) : -128 ≤ z ∧ z ≤ 127 := by
  have h1 : IntKind.i8.min = -128 := rfl
  have h2 : IntKind.i8.max = 127 := rfl
  simp only [Lit.wf, Bool.and_eq_true, decide_eq_true_eq] at h
  omega
/-- A slice that reads as int8. -/
structure I8s (w : World) (A : Option Addr) (n c : Nat) (zs : List Int) : Prop where
  rd : Rd w A n c (zs.map (Value.int .i8))
  lim : ∀ z ∈ zs, -128 ≤ z ∧ z ≤ 127
theorem I8s.below {w w' : World} {A : Option Addr} {n c : Nat} {zs : List Int} (h : I8s w A n c zs) (hb : Below w.heap.size w w') : I8s w' A n c zs := ⟨h.rd.below hb, h.lim⟩
theorem I8s.get {w : World} {A : Option Addr} {n c : Nat} {zs : List Int} {k : Nat} (h : I8s w A n c zs) (hk : k < n) : ∃ b o z, A = some ⟨b, o, none⟩ ∧ -128 ≤ z ∧ z ≤ 127 ∧ zs[k]? = some z ∧ w.cell? ⟨b, o + k, none⟩ = some (.int .i8 z) := by
  obtain ⟨b, o, u, e, hb, hu, hc⟩ := h.rd.get hk
  rw [List.getElem?_map] at hu
  obtain ⟨z, hz, rfl⟩ := Option.map_eq_some_iff.1 hu
  have := h.lim z (List.mem_of_getElem? hz)
  exact ⟨b, o, z, e, this.1, this.2, hz, hc⟩

theorem arg_i8s {H : Type} {enc : TypeId × Value → H} {W : World} {r : Reach} {b0 : Nat} {v : Value} {d : DataW H} {p : List MemPlace} (hv : Value.okWide Try.prog W r b0 56 v) (h : DataW.Trod enc Try.prog W 0 (fun _ => true) true 56 v d p) (hlt : ∀ x ∈ p, x.block < W.heap.size) :
    ∃ A n c zs, v = .slice A n c ∧ I8s W A n c zs ∧ n ≤ maxLen := by
  obtain ⟨a0, len, cap, rfl⟩ := okWide_slice Try.underlying56 hv
  obtain ⟨fuel, hf⟩ := h
  rcases open_ints Try.underlying56 Try.underlying57 (by kernel_rfl) hf with ⟨hcs, hx⟩ | ⟨a, len', cap', zs, hcs, _, hl, hm, hz, hx, hcell, hwz⟩
  · simp [Value.cells] at hcs
    obtain ⟨rfl, rfl, rfl⟩ := hcs
    exact ⟨none, 0, 0, [], rfl, ⟨Rd.nil_ .., fun _ h => by cases h⟩, Nat.zero_le _⟩
  · simp [Value.cells] at hcs
    obtain ⟨rfl, rfl, rfl⟩ := hcs
    simp only [Prod.mk.injEq] at hx
    obtain ⟨rfl, rfl⟩ := hx
    simp only [if_true] at hz
    refine ⟨some a, len, cap, zs.take len, rfl, ⟨⟨by simp; omega, hl, fun hn => ?_⟩, fun x hx => wf_i8 (hwz x (List.mem_of_mem_take hx))⟩, by omega⟩
    have h0 := hcell 0 (by omega)
    obtain ⟨b, off, spot⟩ := a
    have hspot : spot = none := by simpa [Addr.add] using World.cell?_spot h0
    subst hspot
    refine ⟨b, off, rfl, hlt (.cell b off) (MemPlace.mem_row.2 ⟨0, by omega, by simp⟩), fun j u hu => ?_⟩
    rw [List.getElem?_map] at hu
    obtain ⟨z, hz', rfl⟩ := Option.map_eq_some_iff.1 hu
    rw [List.getElem?_take] at hz'
    split at hz'
    · have hj := (List.getElem?_eq_some_iff.1 hz').1
      rw [← add_plain, hcell j hj, List.getD_eq_getElem?_getD, hz']
      rfl
    · cases hz'
end Go.Proofs.Ytkjmccicdjkccaa
