/- Numbers as rows of digits, of whatever base: plain mathematics, no program in sight. No condition. -/
import Derived.WalkKit
namespace Go.Proofs.YticheiocmhaakaaDoor
namespace Num

def val (b : Nat) : List Nat → Nat
  | [] => 0
  | x :: l => x + b * val b l

theorem val_nil (b : Nat) : val b [] = 0 := rfl
theorem val_cons (b x : Nat) (l : List Nat) : val b (x :: l) = x + b * val b l := rfl
theorem val_append (b : Nat) (l m : List Nat) : val b (l ++ m) = val b l + b ^ l.length * val b m := by
  induction l with
  | nil => simp [val]
  | cons x l ih => simp only [List.cons_append, val, ih, List.length_cons, Nat.pow_succ, Nat.mul_add]; rw [Nat.add_assoc, Nat.mul_comm (b ^ l.length) b, Nat.mul_assoc]
theorem val_one (b x : Nat) : val b [x] = x := by simp [val]
theorem val_snoc (b : Nat) (l : List Nat) (x : Nat) : val b (l ++ [x]) = val b l + b ^ l.length * x := by rw [val_append, val_one]
theorem val_lt (b : Nat) (l : List Nat) (h : ∀ x ∈ l, x < b) : val b l < b ^ l.length := by
  induction l with
  | nil => simp [val]
  | cons x l ih =>
    have h1 := ih fun y hy => h y (List.mem_cons_of_mem _ hy)
    have h2 := h x List.mem_cons_self
    simp only [val, List.length_cons, Nat.pow_succ]
    have h3 : b * (val b l + 1) ≤ b * b ^ l.length := Nat.mul_le_mul_left b h1
    rw [Nat.mul_add, Nat.mul_one] at h3
    rw [Nat.mul_comm (b ^ l.length) b]
    omega
theorem val_zeros (b n : Nat) : val b (List.replicate n 0) = 0 := by
  induction n with
  | zero => rfl
  | succ n ih => simp [List.replicate_succ, val, ih]
theorem val_take_drop (b : Nat) (l : List Nat) (k : Nat) (hk : k ≤ l.length) : val b l = val b (l.take k) + b ^ k * val b (l.drop k) := by
  have h := val_append b (l.take k) (l.drop k)
  rw [List.take_append_drop, List.length_take, Nat.min_eq_left hk] at h
  exact h
theorem val_take_succ {l : List Nat} {k x : Nat} (b : Nat) (h : l[k]? = some x) : val b (l.take (k + 1)) = val b (l.take k) + b ^ k * x := by
  have hk := (List.getElem?_eq_some_iff.1 h).1
  rw [List.take_add_one, h, Option.toList_some, val_snoc, List.length_take, Nat.min_eq_left (by omega)]
theorem val_drop_pred {l : List Nat} {k x : Nat} (b : Nat) (h : l[k]? = some x) : val b (l.drop k) = x + b * val b (l.drop (k + 1)) := by
  obtain ⟨hk, rfl⟩ := List.getElem?_eq_some_iff.1 h
  rw [List.drop_eq_getElem_cons hk, val_cons]
theorem val_set {l : List Nat} {k x : Nat} (b y : Nat) (h : l[k]? = some x) : val b (l.set k y) + b ^ k * x = val b l + b ^ k * y := by
  obtain ⟨hk, rfl⟩ := List.getElem?_eq_some_iff.1 h
  clear h
  induction l generalizing k with
  | nil => simp at hk
  | cons z l ih =>
    cases k with
    | zero => simp only [List.set_cons_zero, val, Nat.pow_zero, Nat.one_mul, List.getElem_cons_zero]; omega
    | succ k =>
      have h2 := ih (k := k) (by simpa using hk)
      simp only [List.set_cons_succ, val, List.getElem_cons_succ]
      have h3 := congrArg (b * ·) h2
      simp only [Nat.mul_add] at h3
      rw [Nat.pow_succ, Nat.mul_comm (b ^ k) b, Nat.mul_assoc, Nat.mul_assoc]
      omega
/-- A place that has been written: what stands ahead of it, and the new digit. -/
theorem take_set_succ {l : List Nat} {k : Nat} (y : Nat) (hk : k < l.length) : (l.set k y).take (k + 1) = l.take k ++ [y] := by
  rw [List.take_add_one, List.take_set_of_le (Nat.le_refl _), List.getElem?_set_self hk]
  rfl
theorem val_take_set (b : Nat) {l : List Nat} {k : Nat} (y : Nat) (hk : k < l.length) : val b ((l.set k y).take (k + 1)) = val b (l.take k) + b ^ k * y := by
  rw [take_set_succ y hk, val_snoc, List.length_take, Nat.min_eq_left (by omega)]

/-! ### The digits of a number -/
def dig (b n : Nat) : List Nat := if _h : b < 2 ∨ n = 0 then [] else n % b :: dig b (n / b)
termination_by n
decreasing_by exact Nat.div_lt_self (by omega) (by omega)

theorem dig_zero (b : Nat) : dig b 0 = [] := by rw [dig]; simp
theorem dig_pos {b n : Nat} (hb : 2 ≤ b) (hn : 0 < n) : dig b n = n % b :: dig b (n / b) := by
  rw [dig, dif_neg (by omega)]
theorem val_dig {b : Nat} (hb : 2 ≤ b) (n : Nat) : val b (dig b n) = n := by
  induction n using Nat.strongRecOn with
  | ind n ih =>
    rcases Nat.eq_zero_or_pos n with rfl | hn
    · rw [dig_zero]; rfl
    · rw [dig_pos hb hn, val_cons, ih _ (Nat.div_lt_self hn (by omega))]
      exact Nat.mod_add_div n b
theorem dig_lt {b : Nat} (hb : 2 ≤ b) (n : Nat) : ∀ x ∈ dig b n, x < b := by
  induction n using Nat.strongRecOn with
  | ind n ih =>
    rcases Nat.eq_zero_or_pos n with rfl | hn
    · rw [dig_zero]; intro x hx; cases hx
    · rw [dig_pos hb hn]
      intro x hx
      rcases List.mem_cons.1 hx with rfl | hx
      · exact Nat.mod_lt _ (by omega)
      · exact ih _ (Nat.div_lt_self hn (by omega)) x hx
theorem dig_inj {b : Nat} (hb : 2 ≤ b) {n m : Nat} (h : dig b n = dig b m) : n = m := by
  rw [← val_dig hb n, h, val_dig hb]
theorem dig_eq_nil {b : Nat} (hb : 2 ≤ b) (n : Nat) : dig b n = [] ↔ n = 0 := by
  constructor
  · intro h
    have := val_dig hb n
    rw [h] at this
    exact this.symm
  · rintro rfl
    exact dig_zero b
theorem dig_cons {b : Nat} (hb : 2 ≤ b) {x m : Nat} (hx : x < b) (h : 0 < x + b * m) : dig b (x + b * m) = x :: dig b m := by
  rw [dig_pos hb h, Nat.add_mul_mod_self_left, Nat.mod_eq_of_lt hx, Nat.add_mul_div_left _ _ (by omega), Nat.div_eq_of_lt hx, Nat.zero_add]
/-- A row whose highest digit is none 0 is its value's. -/
theorem dig_val {b : Nat} (hb : 2 ≤ b) (l : List Nat) (h : ∀ x ∈ l, x < b) (ht : ∀ x, l[l.length - 1]? = some x → x ≠ 0) : dig b (val b l) = l := by
  induction l with
  | nil => exact dig_zero b
  | cons x l ih =>
    have hx := h x List.mem_cons_self
    cases l with
    | nil =>
      have h0 := ht x (by simp)
      have := dig_cons (m := 0) hb hx (by omega)
      rw [dig_zero] at this
      simpa [val] using this
    | cons y l =>
      have ih' := ih (fun z hz => h z (List.mem_cons_of_mem _ hz)) (fun z hz => ht z (by simpa using hz))
      have hp : 0 < val b (y :: l) := by
        rcases Nat.eq_zero_or_pos (val b (y :: l)) with h0 | h0
        · rw [h0, dig_zero] at ih'; cases ih'
        · exact h0
      rw [val_cons, dig_cons hb hx (Nat.lt_of_lt_of_le (Nat.mul_pos (by omega) hp) (Nat.le_add_left _ _)), ih']
theorem dig_len_le {b : Nat} (hb : 2 ≤ b) (k : Nat) : ∀ n, n < b ^ k → (dig b n).length ≤ k := by
  induction k with
  | zero => intro n hn; have : n = 0 := by simpa using hn
            subst this; simp [dig_zero]
  | succ k ih =>
    intro n hn
    rcases Nat.eq_zero_or_pos n with rfl | hp
    · simp [dig_zero]
    · rw [dig_pos hb hp, List.length_cons]
      have := ih (n / b) (by rw [Nat.div_lt_iff_lt_mul (by omega)]; rwa [Nat.pow_succ] at hn)
      omega
theorem lt_dig_len {b : Nat} (hb : 2 ≤ b) (n : Nat) : n < b ^ (dig b n).length := by
  have := val_lt b (dig b n) (dig_lt hb n)
  rwa [val_dig hb] at this
theorem dig_len_val {b : Nat} (hb : 2 ≤ b) (l : List Nat) (h : ∀ x ∈ l, x < b) : (dig b (val b l)).length ≤ l.length := dig_len_le hb _ _ (val_lt b l h)
theorem dig_len_mono {b : Nat} (hb : 2 ≤ b) {n m : Nat} (h : n ≤ m) : (dig b n).length ≤ (dig b m).length := dig_len_le hb _ _ (Nat.lt_of_le_of_lt h (lt_dig_len hb m))
/-- The highest digit of a number is none 0. -/
theorem dig_top {b : Nat} (hb : 2 ≤ b) (n : Nat) : ∀ x, (dig b n)[(dig b n).length - 1]? = some x → x ≠ 0 := by
  induction n using Nat.strongRecOn with
  | ind n ih =>
    rcases Nat.eq_zero_or_pos n with rfl | hn
    · intro x hx; simp [dig_zero] at hx
    · rw [dig_pos hb hn]
      intro x hx
      rcases Nat.eq_zero_or_pos (n / b) with h0 | h0
      · rw [h0, dig_zero] at hx
        have : n % b = x := by simpa using hx
        have h1 : n < b := by
          rcases Nat.lt_or_ge n b with h | h
          · exact h
          · have := Nat.div_pos h (by omega); omega
        rw [Nat.mod_eq_of_lt h1] at this
        omega
      · have hl : 0 < (dig b (n / b)).length := by
          rcases Nat.eq_zero_or_pos (dig b (n / b)).length with h | h
          · have := (dig_eq_nil hb _).1 (List.eq_nil_of_length_eq_zero h); omega
          · exact h
        have hlt : n / b < n := Nat.div_lt_self hn (by omega)
        have key : (dig b (n / b))[(dig b (n / b)).length - 1]? = some x := by
          rw [List.length_cons, Nat.add_sub_cancel, List.getElem?_cons, if_neg (by omega)] at hx
          exact hx
        exact ih _ hlt x key
theorem dig_ge {b : Nat} (hb : 2 ≤ b) {n : Nat} {k : Nat} (h : (dig b n).length = k + 1) : b ^ k ≤ n := by
  rcases Nat.lt_or_ge n (b ^ k) with hlt | hge
  · have := dig_len_le hb k n hlt; omega
  · exact hge
/-- A shorter number is less. -/
theorem lt_of_len {b : Nat} (hb : 2 ≤ b) {n m : Nat} (h : (dig b n).length < (dig b m).length) : n < m := by
  rcases Nat.lt_or_ge n m with hlt | hge
  · exact hlt
  · have := dig_len_mono hb hge; omega

/-- A digit; 0 beyond the end. -/
theorem val_take_getD (b : Nat) (l : List Nat) (k : Nat) : val b (l.take (k + 1)) = val b (l.take k) + b ^ k * l[k]?.getD 0 := by
  rcases Nat.lt_or_ge k l.length with h | h
  · rw [val_take_succ b (List.getElem?_eq_getElem h), List.getElem?_eq_getElem h]; rfl
  · rw [List.take_of_length_le (by omega), List.take_of_length_le h, List.getElem?_eq_none h]; simp
/-- Two rows of one length that are alike from a place on, and differ there. -/
theorem val_lt_at {b : Nat} (l m : List Nat) (k x y : Nat) (hlm : l.length = m.length) (hl : ∀ x ∈ l, x < b) (hx : l[k]? = some x) (hy : m[k]? = some y) (hd : l.drop (k + 1) = m.drop (k + 1)) (hxy : x < y) : val b l < val b m := by
  have hk := (List.getElem?_eq_some_iff.1 hx).1
  rw [val_take_drop b l k (by omega), val_take_drop b m k (by omega), val_drop_pred b hx, val_drop_pred b hy, hd]
  have h1 := val_lt b (l.take k) (fun z hz => hl z (List.mem_of_mem_take hz))
  rw [List.length_take, Nat.min_eq_left (by omega)] at h1
  have h2 : b ^ k * (x + 1) ≤ b ^ k * y := Nat.mul_le_mul_left _ hxy
  rw [Nat.mul_add, Nat.mul_one] at h2
  rw [Nat.mul_add, Nat.mul_add]
  omega

/-- How one number stands to another. -/
def cmp (n m : Nat) : Int := if n < m then -1 else if m < n then 1 else 0
theorem cmp_lt {n m : Nat} (h : n < m) : cmp n m = -1 := by unfold cmp; rw [if_pos h]
theorem cmp_gt {n m : Nat} (h : m < n) : cmp n m = 1 := by unfold cmp; rw [if_neg (by omega), if_pos h]
theorem cmp_eq (n : Nat) : cmp n n = 0 := by unfold cmp; rw [if_neg (by omega), if_neg (by omega)]
end Num
end Go.Proofs.YticheiocmhaakaaDoor
