/- Long division, limb by limb: plain mathematics. No condition. -/
import Derived.Test.YticheiocmhaakaaDoorNatH
namespace Go.Proofs.YticheiocmhaakaaDoor
namespace Num

/-- One limb of the quotient: W is the power beyond the dividend's limbs. -/
theorem limb_none {V M W qg m1 : Nat} (hV : 0 < V) (hq1 : M / V ≤ qg) (hm : m1 + qg * V = M + W * 0) : qg = M / V ∧ m1 = M % V := by
  have h1 : qg ≤ M / V := by rw [Nat.le_div_iff_mul_le hV]; omega
  have h2 : qg = M / V := by omega
  refine ⟨h2, ?_⟩
  have h3 := Nat.div_add_mod M V
  rw [h2, Nat.mul_comm] at hm
  omega
theorem limb_back {V M W qg m1 m2 e : Nat} (hV : 0 < V) (hq2 : qg ≤ M / V + 1) (hm : m1 + qg * V = M + W * 1) (hm1 : m1 < W) (he : m2 + W * e = m1 + V) (he1 : e ≤ 1) (hm2 : m2 < W) :
    1 ≤ qg ∧ qg - 1 = M / V ∧ m2 = M % V := by
  have h3 := Nat.div_add_mod M V
  have h4 : M < qg * V := by omega
  have h5 : M / V < qg := by rw [Nat.div_lt_iff_lt_mul hV]; exact h4
  have h7 := Nat.mod_lt M hV
  generalize M / V = T at *
  generalize M % V = R at *
  obtain rfl : qg = T + 1 := by omega
  rw [Nat.add_mul, Nat.one_mul, Nat.mul_comm T V] at hm
  have he2 : e = 1 := by
    rcases Nat.eq_zero_or_pos e with h | h
    · subst h; omega
    · omega
  subst he2
  exact ⟨by omega, by omega, by omega⟩
end Num
open Go.RowKit

/-- What holds between two limbs of a quotient: J are left; u is what is left of the dividend D, q the quotient's limbs. -/
structure Longs (D V nb J : Nat) (u q : List Nat) : Prop where
  eq : D = V * 4294967296 ^ J * vl (q.drop J) + vl (u.take (J + nb))
  lt : vl (u.take (J + nb)) < V * 4294967296 ^ J

theorem Longs.mid {D V nb j : Nat} {h m t q : List Nat} (H : Longs D V nb (j + 1) (h ++ (m ++ t)) q) (hh : h.length = j) (hm : m.length = nb + 1) : D = V * 4294967296 ^ (j + 1) * vl (q.drop (j + 1)) + (vl h + 4294967296 ^ j * vl m) ∧ vl m < 4294967296 * V := by
  have e : (h ++ (m ++ t)).take (j + 1 + nb) = h ++ m := by
    rw [← List.append_assoc, List.take_left' (by simp; omega)]
  have e2 : vl (h ++ m) = vl h + 4294967296 ^ j * vl m := by rw [← hh]; exact Num.val_append _ h m
  have h1 := H.eq
  have h2 := H.lt
  rw [e, e2] at h1 h2
  refine ⟨h1, ?_⟩
  have h3 : 4294967296 ^ j * vl m < 4294967296 ^ j * (4294967296 * V) := by
    rw [Nat.pow_succ, Nat.mul_comm V, Nat.mul_assoc] at h2
    omega
  exact Nat.lt_of_mul_lt_mul_left h3
theorem Longs.next {D V nb j : Nat} {h m m' t q : List Nat} (H : Longs D V nb (j + 1) (h ++ (m ++ t)) q) (hh : h.length = j) (hm : m.length = nb + 1) (hm' : m'.length = nb + 1) (hV : 0 < V) (hVl : V < 4294967296 ^ nb)
    (hhl : ∀ x ∈ h, x < 4294967296) (hq : j < q.length) (hr : vl m' = vl m % V) : Longs D V nb j (h ++ (m' ++ t)) (q.set j (vl m / V)) ∧ (h ++ (m' ++ t))[j + nb]? = some 0 := by
  obtain ⟨h1, _⟩ := H.mid hh hm
  have hlt := Nat.mod_lt (vl m) hV
  have hlast : m'[nb]? = some 0 := by
    obtain ⟨z, hz⟩ : ∃ z, m'[nb]? = some z := ⟨_, List.getElem?_eq_getElem (by omega)⟩
    have e1 := vl_take_succ hz
    rw [List.take_of_length_le (by omega)] at e1
    rcases Nat.eq_zero_or_pos z with h0 | h0
    · rw [hz, h0]
    · have := Nat.mul_le_mul_left (4294967296 ^ nb) h0
      omega
  have htk : vl (m'.take nb) = vl m' := by
    have e1 := vl_take_succ hlast
    rw [List.take_of_length_le (by omega)] at e1
    omega
  have e : (h ++ (m' ++ t)).take (j + nb) = h ++ m'.take nb := by
    rw [List.take_append, List.take_of_length_le (by omega), hh, Nat.add_sub_cancel_left, List.take_append_of_le_length (by omega)]
  have e2 : vl (h ++ m'.take nb) = vl h + 4294967296 ^ j * (vl m % V) := by rw [← hr, ← htk, ← hh]; exact Num.val_append _ h _
  have hhv : vl h < 4294967296 ^ j := by rw [← hh]; exact Num.val_lt _ h hhl
  have hqd : vl ((q.set j (vl m / V)).drop j) = vl m / V + 4294967296 * vl (q.drop (j + 1)) := by
    have := Num.val_drop_pred (l := q.set j (vl m / V)) (k := j) 4294967296 (List.getElem?_set_self hq)
    rw [drop_set_lt] at this
    exact this
  refine ⟨⟨?_, ?_⟩, by rw [← hh, mid_get h m' t nb (by omega)]; exact hlast⟩
  · rw [e, e2, hqd, h1]
    have h3 : 4294967296 ^ j * (V * (vl m / V) + vl m % V) = 4294967296 ^ j * vl m := by rw [Nat.div_add_mod]
    have a1 : 4294967296 ^ j * (V * (vl m / V)) = V * 4294967296 ^ j * (vl m / V) := by rw [← Nat.mul_assoc, Nat.mul_comm (4294967296 ^ j) V]
    have a2 : V * 4294967296 ^ j * (4294967296 * vl (q.drop (j + 1))) = V * 4294967296 ^ (j + 1) * vl (q.drop (j + 1)) := by
      rw [Nat.pow_succ]; simp only [Nat.mul_assoc]
    rw [Nat.mul_add, a1] at h3
    rw [Nat.mul_add, a2]
    omega
  · rw [e, e2]
    have h3 := Nat.mul_le_mul_left (4294967296 ^ j) (show vl m % V + 1 ≤ V by omega)
    rw [Nat.mul_add, Nat.mul_one] at h3
    rw [Nat.mul_comm V]
    omega
theorem Longs.fin {a b s nb : Nat} {u q : List Nat} (H : Longs (a * 2 ^ s) (b * 2 ^ s) nb 0 u q) : vl q = a / b ∧ vl (u.take nb) = (a % b) * 2 ^ s := by
  have h1 := H.eq
  have h2 := H.lt
  simp only [Nat.pow_zero, Nat.mul_one, List.drop_zero, Nat.zero_add] at h1 h2
  have hp := Nat.two_pow_pos s
  have hb : 0 < b := by
    rcases Nat.eq_zero_or_pos b with h | h
    · rw [h] at h2; simp at h2
    · exact h
  have h3 : a * 2 ^ s / (b * 2 ^ s) = vl q := by
    rw [h1, Nat.mul_add_div (by omega), Nat.div_eq_of_lt h2, Nat.add_zero]
  have h4 : a * 2 ^ s % (b * 2 ^ s) = vl (u.take nb) := by
    rw [h1, Nat.mul_add_mod, Nat.mod_eq_of_lt h2]
  rw [Nat.mul_div_mul_right _ _ hp] at h3
  rw [Nat.mul_mod_mul_right] at h4
  exact ⟨h3.symm, h4.symm⟩
/-- A limb of what is shifted back. -/
theorem down_limb (L : List Nat) (s i x y : Nat) (hs : s ≤ 32) (hL : ∀ z ∈ L, z < 4294967296) (hx : L[i]? = some x) (hy : L[i + 1]? = some y) : vl L / 2 ^ s / 4294967296 ^ i % 4294967296 = (y * 4294967296 + x) / 2 ^ s % 4294967296 := by
  have hi := (List.getElem?_eq_some_iff.1 hx).1
  have e1 : vl L / 4294967296 ^ i = vl (L.drop i) := by
    have h1 : vl L = vl (L.take i) + 4294967296 ^ i * vl (L.drop i) := Num.val_take_drop _ L i (by omega)
    have h2 : vl (L.take i) < 4294967296 ^ (L.take i).length := Num.val_lt 4294967296 (L.take i) (fun z hz => hL z (List.mem_of_mem_take hz))
    rw [List.length_take, Nat.min_eq_left (by omega)] at h2
    rw [h1, Nat.add_mul_div_left _ _ (Nat.pow_pos (by omega)), Nat.div_eq_of_lt h2, Nat.zero_add]
  rw [Nat.div_div_eq_div_mul, Nat.mul_comm, ← Nat.div_div_eq_div_mul, e1]
  have e2 : vl (L.drop i) = (y * 4294967296 + x) + 2 ^ s * (4294967296 * (2 ^ (32 - s) * vl (L.drop (i + 2)))) := by
    have h1 : vl (L.drop i) = x + 4294967296 * vl (L.drop (i + 1)) := Num.val_drop_pred _ hx
    have h2 : vl (L.drop (i + 1)) = y + 4294967296 * vl (L.drop (i + 2)) := Num.val_drop_pred _ hy
    have h3 : 2 ^ s * 2 ^ (32 - s) = 4294967296 := by rw [← Nat.pow_add, show s + (32 - s) = 32 by omega]
    have h4 : 2 ^ s * (4294967296 * (2 ^ (32 - s) * vl (L.drop (i + 2)))) = 4294967296 * (4294967296 * vl (L.drop (i + 2))) := by
      rw [Nat.mul_left_comm, ← Nat.mul_assoc (2 ^ s), h3]
    rw [h1, h2, h4]
    omega
  rw [e2, Nat.add_mul_div_left _ _ (Nat.two_pow_pos s), Nat.add_mul_mod_self_left]
end Go.Proofs.YticheiocmhaakaaDoor
