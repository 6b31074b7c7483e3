/- Fractions in memory: four cells of a block; limbs of what is plain. No condition. -/
import Derived.Test.YticjhlbmdjijnaaGreatDoorGP
import Derived.Test.YticjhlbmdjijnaaGreatDoorHQMath
import Derived.Test.YticjhlbmdjijnaaGreatDoorHGcd
namespace Go.Proofs.YticjhlbmdjijnaaGreatDoor
set_option linter.unusedSimpArgs false
set_option linter.unusedVariables false
open Go.RowKit

section
variable {w0 w w' : World} {bl : List Bl} {zs : List Zt}
theorem Env.st4 {a b c d : Value} (E : Env w0 w bl zs) (i : Nat) (u v x y : Value) {g : Nat} {t : TypeId} (h : bl[i]? = some (g, t, #[a, b, c, d])) (hu : notInt u = true) (hv : notInt v = true) (hx : notInt x = true) (hy : notInt y = true) :
    Env w0 ((((w.setCell ⟨g, 0, none⟩ u).setCell ⟨g, 1, none⟩ v).setCell ⟨g, 2, none⟩ x).setCell ⟨g, 3, none⟩ y) (bl.set i (g, t, #[u, v, x, y])) zs := by
  have hi := (List.getElem?_eq_some_iff.1 h).1
  have E1 := E.set i 0 u h hu
  have E2 := E1.set i 1 v (List.getElem?_set_self hi) hv
  rw [List.set_set] at E2
  have E3 := E2.set i 2 x (List.getElem?_set_self hi) hx
  rw [List.set_set] at E3
  have E4 := E3.set i 3 y (List.getElem?_set_self hi) hy
  rw [List.set_set] at E4
  exact E4
end

section
variable {w : World} {b : Bool} {A : Option Addr} {n c : Nat} {x y : Int} {k K : Nat} {p : Bool}
theorem ZIs.as (h : ZIs w b A n c x k p) (e : x = y) : ZIs w b A n c y k p := e ▸ h
theorem ZIs.as_t (h : ZIs w b A n c x k true) (e : x = y) (hk : y.natAbs < 4294967296 ^ K) : ZIs w b A n c y K true := (e ▸ h : ZIs w b A n c y k true).tight hk
theorem ZIs.neg_b (h : ZIs w b A n c x k true) : decide (x < 0) = b := h.limbs.2.symm
/-- A plain number 1. -/
theorem ZIs.one_at (h : ZIs w b A n c 1 k true) : n = 1 ∧ ∃ g o, A = some ⟨g, o, none⟩ ∧ w.cell? ⟨g, o, none⟩ = some (.int .u32 1) := by
  obtain ⟨h1, _⟩ := h.limbs
  have e : lmb (1 : Int).natAbs = [1] := by
    have h : vl [1] = 1 := by simp [vl, Num.val]
    rw [show (1 : Int).natAbs = vl [1] from h.symm]
    exact lmb_lit [1] (by decide) (by decide)
  rw [e] at h1
  have hn : n = 1 := by have := h1.len; simpa using this.symm
  subst hn
  obtain ⟨g, o, x, hA, _, hx, _, hc⟩ := h1.get (k := 0) (by omega)
  simp at hx
  subst hx
  exact ⟨rfl, g, o, hA, by simpa using hc⟩
/-- A plain number of one limb that isn't 1, above 0. -/
theorem ZIs.limb_at (h : ZIs w b A 1 c x k true) (h1 : x ≠ 1) (h0 : 0 < x) : ∃ g o u, A = some ⟨g, o, none⟩ ∧ w.cell? ⟨g, o, none⟩ = some (.int .u32 ((u : Nat) : Int)) ∧ u ≠ 1 := by
  obtain ⟨h2, _⟩ := h.limbs
  obtain ⟨g, o, u, hA, _, hx, _, hc⟩ := h2.get (k := 0) (by omega)
  refine ⟨g, o, u, hA, by simpa using hc, ?_⟩
  rintro rfl
  have hl : (lmb x.natAbs).length = 1 := h2.len
  match hm : lmb x.natAbs, hl with
  | [z], _ =>
    rw [hm] at hx
    simp at hx
    subst hx
    have := vl_lmb x.natAbs
    rw [hm] at this
    simp [vl, Num.val] at this
    omega
end
theorem pow_div_lt {x g K : Nat} (h : x < 4294967296 ^ K) : x / g < 4294967296 ^ K := Nat.lt_of_le_of_lt (Nat.div_le_self ..) h
theorem qnum_lt {x y : Int} {K : Nat} (hy : 0 < y) (hx : x.natAbs < 4294967296 ^ K) : (Rat.divInt x y).num.natAbs < 4294967296 ^ K := by
  rw [qnum_of hy, zv_abs]; exact pow_div_lt hx
theorem qden_lt {x y : Int} {K : Nat} (hy : 0 < y) (h : y.natAbs < 4294967296 ^ K) : ((Rat.divInt x y).den : Int).natAbs < 4294967296 ^ K := by
  rw [qden_of hy, Int.natAbs_natCast]; exact pow_div_lt h
end Go.Proofs.YticjhlbmdjijnaaGreatDoor
