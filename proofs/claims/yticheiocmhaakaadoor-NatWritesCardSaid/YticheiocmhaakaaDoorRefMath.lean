/- Rows of digits, further: plain mathematics. No condition. -/
import Derived.Test.YticheiocmhaakaaDoorNumMath
namespace Go.Proofs.YticheiocmhaakaaDoor
namespace Num

/-- Two rows that are alike from a place on. -/
theorem pad {b : Nat} (l m : List Nat) (k : Nat) (hd : ∀ j : Nat, k ≤ j → l[j]?.getD 0 = m[j]?.getD 0) : val b l + val b (m.take k) = val b m + val b (l.take k) := by
  have h : ∀ d, val b (l.take (k + d)) + val b (m.take k) = val b (m.take (k + d)) + val b (l.take k) := by
    intro d
    induction d with
    | zero => rw [Nat.add_zero, Nat.add_comm]
    | succ d ih =>
      rw [← Nat.add_assoc, val_take_getD, val_take_getD, hd (k + d) (by omega)]
      omega
  have := h (l.length + m.length)
  rw [List.take_of_length_le (i := k + (l.length + m.length)) (l := l) (by omega), List.take_of_length_le (i := k + (l.length + m.length)) (l := m) (by omega)] at this
  exact this
theorem pad_lt {b : Nat} (hb : 1 ≤ b) (l m : List Nat) (k x y : Nat) (hl : ∀ x ∈ l, x < b) (hd : ∀ j : Nat, k + 1 ≤ j → l[j]?.getD 0 = m[j]?.getD 0) (hx : l[k]?.getD 0 = x) (hy : m[k]?.getD 0 = y) (h : x < y) : val b l < val b m := by
  have h1 := pad (b := b) l m (k + 1) hd
  rw [val_take_getD, val_take_getD, hx, hy] at h1
  have h2 := val_lt b (l.take k) (fun z hz => hl z (List.mem_of_mem_take hz))
  have h4 : b ^ (l.take k).length ≤ b ^ k := Nat.pow_le_pow_right hb (by rw [List.length_take]; exact Nat.min_le_left _ _)
  have h3 : b ^ k * (x + 1) ≤ b ^ k * y := Nat.mul_le_mul_left _ h
  rw [Nat.mul_add, Nat.mul_one] at h3
  omega
theorem pad_eq {b : Nat} (l m : List Nat) (hd : ∀ j : Nat, l[j]?.getD 0 = m[j]?.getD 0) : val b l = val b m := by
  have h1 := pad (b := b) l m 0 (fun j _ => hd j)
  simpa using h1
/-- A row of digits is its value's, if the value needs as many. -/
theorem dig_of {b : Nat} (hb : 2 ≤ b) (o : List Nat) (m v : Nat) (hm : o.length = m) (ho : ∀ x ∈ o, x < b) (hv : val b o = v) (h : m = 0 ∨ b ^ (m - 1) ≤ v) : o = dig b v := by
  subst hv
  refine (dig_val hb o ho ?_).symm
  intro x hx h0
  have hk := (List.getElem?_eq_some_iff.1 hx).1
  rcases h with h | h
  · omega
  · have e := val_take_succ b hx
    rw [List.take_of_length_le (by omega)] at e
    have h2 := val_lt b (o.take (o.length - 1)) (fun z hz => ho z (List.mem_of_mem_take hz))
    rw [List.length_take, Nat.min_eq_left (by omega), hm] at h2
    rw [h0, Nat.mul_zero, hm] at e
    omega
/-- Digits without the zeros at the end. -/
theorem take_dig {b : Nat} (hb : 2 ≤ b) (l : List Nat) (k : Nat) (hk : k ≤ l.length) (hl : ∀ x ∈ l, x < b) (hz : val b (l.take k) = val b l) (ht : k = 0 ∨ ∃ x, l[k - 1]? = some x ∧ x ≠ 0) : l.take k = dig b (val b l) := by
  rw [← hz]
  refine (dig_val hb _ (fun y hy => hl y (List.mem_of_mem_take hy)) ?_).symm
  intro y hy
  rw [List.length_take, Nat.min_eq_left hk] at hy
  rcases ht with rfl | ⟨x, hx, hx0⟩
  · simp at hy
  · have hk1 := (List.getElem?_eq_some_iff.1 hx).1
    rw [List.getElem?_take] at hy
    split at hy
    · rw [hx] at hy; cases hy; exact hx0
    · cases hy
theorem sub_fin {b : Nat} (l l' o : List Nat) (n d : Nat) (hl : l.length = n) (ho : o.length = n) (hll : ∀ x ∈ l, x < b) (hol : ∀ x ∈ o, x < b) (hle : val b l' ≤ val b l) (hs : val b o + val b (l'.take n) = val b l + b ^ n * d) :
    val b o = val b l - val b l' := by
  have h1 : val b l < b ^ n := by rw [← hl]; exact Num.val_lt _ l hll
  have h2 : val b o < b ^ n := by rw [← ho]; exact Num.val_lt _ o hol
  have h3 : val b l' = val b (l'.take n) + b ^ n * val b (l'.drop n) := by
    rcases Nat.lt_or_ge l'.length n with h | h
    · rw [List.take_of_length_le (by omega), List.drop_eq_nil_of_le (by omega)]; rfl
    · exact Num.val_take_drop _ l' n h
  have h4 : val b (l'.drop n) = 0 := by
    rcases Nat.eq_zero_or_pos (val b (l'.drop n)) with h | h
    · exact h
    · have := Nat.mul_le_mul_left (b ^ n) h
      omega
  have h5 : d = 0 := by
    rcases Nat.eq_zero_or_pos d with h | h
    · exact h
    · have := Nat.mul_le_mul_left (b ^ n) h
      omega
  rw [h4, Nat.mul_zero, Nat.add_zero] at h3
  rw [h5, Nat.mul_zero, Nat.add_zero] at hs
  omega
/-- A digit more of a quotient. -/
theorem div_step {H V Q R a n R' b : Nat} (h : H = V * Q + R) (h' : a + b * R = V * n + R') : a + b * H = V * (n + b * Q) + R' := by
  rw [h, Nat.mul_add, Nat.mul_add, Nat.mul_left_comm V b Q]
  omega
end Num
end Go.Proofs.YticheiocmhaakaaDoor
