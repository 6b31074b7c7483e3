/- Fractions as Lean's own rational numbers: plain mathematics. No condition. -/
import Derived.Test.YticjhlbmdjijnaaGreatDoorG1
namespace Go.Proofs.YticjhlbmdjijnaaGreatDoor
set_option linter.unusedSimpArgs false
set_option linter.unusedVariables false

/-- The fraction of a numerator and a denominator; 0, if it may not be. -/
def qv (x y : Int) : Rat := if 0 < y then Rat.divInt x y else 0
theorem qv_pos {x y : Int} (h : 0 < y) : qv x y = Rat.divInt x y := if_pos h
theorem qv_not {x y : Int} (h : ¬ 0 < y) : qv x y = 0 := if_neg h
theorem qden_pos (q : Rat) : (0 : Int) < (q.den : Int) := by have := q.den_pos; omega
theorem qv_self (q : Rat) : qv q.num (q.den : Int) = q := by rw [qv_pos (qden_pos q), Rat.num_divInt_den]
theorem qv_int (x : Int) : qv x 1 = (x : Rat) := by
  rw [qv_pos (by decide)]
  exact Rat.num_divInt_den (x : Rat)

/-- Numerator and denominator of one number by another above 0. -/
theorem qnum_of {x y : Int} (hy : 0 < y) : (Rat.divInt x y).num = zv (decide (x < 0)) (x.natAbs / Nat.gcd x.natAbs y.natAbs) := by
  rw [Rat.num_divInt, Int.sign_eq_one_of_pos hy, Int.one_mul]
  have hg : (y.gcd x : Int) = ((Nat.gcd x.natAbs y.natAbs : Nat) : Int) := by rw [Int.gcd, Nat.gcd_comm]
  rw [hg]
  have hx := zv_of x
  have hd : Nat.gcd x.natAbs y.natAbs ∣ x.natAbs := Nat.gcd_dvd_left ..
  have hp : 0 < Nat.gcd x.natAbs y.natAbs := Nat.gcd_pos_of_pos_right _ (by omega)
  generalize Nat.gcd x.natAbs y.natAbs = g at *
  generalize x.natAbs = m at *
  generalize decide (x < 0) = s at *
  subst hx
  obtain ⟨k, rfl⟩ := hd
  rw [Nat.mul_div_cancel_left _ hp]
  have hg0 : (g : Int) ≠ 0 := by omega
  cases s
  · rw [zv_false, zv_false, Int.natCast_mul, Int.mul_ediv_cancel_left _ hg0]
  · rw [zv_true, zv_true, Int.natCast_mul, ← Int.mul_neg, Int.mul_ediv_cancel_left _ hg0]
theorem qden_of {x y : Int} (hy : 0 < y) : (Rat.divInt x y).den = y.natAbs / Nat.gcd x.natAbs y.natAbs := by
  rw [Rat.den_divInt, if_neg (by omega), Int.gcd, Nat.gcd_comm]
theorem qdiv_neg (x y : Int) : Rat.divInt (-x) (-y) = Rat.divInt x y := Rat.neg_divInt_neg x y
theorem qdiv_one (x : Int) : (Rat.divInt x 1).num = x ∧ (Rat.divInt x 1).den = 1 := by
  have : Rat.divInt x 1 = (x : Rat) := Rat.num_divInt_den (x : Rat)
  rw [this]
  exact ⟨rfl, rfl⟩

/-- How one fraction stands to another. -/
def qcmp (a b : Rat) : Int := if a < b then -1 else if b < a then 1 else 0
theorem qcmp_cross (a b : Rat) : zcmp (a.num * b.den) (b.num * a.den) = qcmp a b := by
  unfold zcmp qcmp
  simp only [Rat.lt_iff]
theorem qadd_of (a b : Rat) : Rat.divInt (a.num * b.den + b.num * a.den) (a.den * b.den) = a + b := by
  rw [Rat.add_def', ← Rat.divInt_ofNat, Int.natCast_mul]
theorem qsub_of (a b : Rat) : Rat.divInt (a.num * b.den - b.num * a.den) (a.den * b.den) = a - b := by
  rw [Rat.sub_def', ← Rat.divInt_ofNat, Int.natCast_mul]
theorem qmul_of (a b : Rat) : Rat.divInt (a.num * b.num) (a.den * b.den) = a * b := by
  rw [Rat.mul_def', ← Rat.divInt_ofNat, Int.natCast_mul]
theorem qdivi_of (a b : Rat) : Rat.divInt (a.num * b.den) (a.den * b.num) = a / b := by
  rw [Rat.div_def, Rat.inv_def, ← Rat.divInt_mul_divInt, Rat.num_divInt_den]
theorem qnum_zero (q : Rat) : q.num = 0 ↔ q = 0 := Rat.num_eq_zero
theorem qdd_pos (a b : Rat) : (0 : Int) < (a.den : Int) * (b.den : Int) := Int.mul_pos (qden_pos a) (qden_pos b)

theorem wdiv_pos {a b : Int} (hb : 0 < b) : wdiv a b = a / b := by
  obtain ⟨h1, h2⟩ := wmod_sign a b (by omega)
  have h3 := wdiv_add a b
  have h4 : decide (b < 0) = false := decide_eq_false (by omega)
  rw [h4] at h2
  have h5 : 0 ≤ wmod a b := by
    rcases h2 with h2 | h2
    · omega
    · have := of_decide_eq_false h2; omega
  have h6 : wmod a b < b := by omega
  generalize wmod a b = r at *
  generalize wdiv a b = q at *
  subst h3
  rw [Int.mul_comm, Int.add_comm, Int.add_mul_ediv_left _ _ (by omega), Int.ediv_eq_zero_of_lt h5 h6]
  omega
theorem qfloor_of (q : Rat) : wdiv q.num q.den = q.floor := by rw [Rat.floor_def, wdiv_pos (qden_pos q)]
theorem qceil_of (q : Rat) : 0 - wdiv (0 - q.num) q.den = q.ceil := by
  rw [Rat.ceil_eq_neg_floor_neg, ← qfloor_of, Rat.neg_num, Rat.neg_den, Int.zero_sub, Int.zero_sub]
theorem qfloor_neg (q : Rat) : wdiv (0 - q.num) q.den = (-q).floor := by rw [← qfloor_of, Rat.neg_num, Rat.neg_den, Int.zero_sub]
/-- What is above the floor. -/
def qfrac (q : Rat) : Rat := q - (q.floor : Rat)
theorem qfrac_of (q : Rat) : Rat.divInt (wmod q.num q.den) q.den = qfrac q := by
  unfold wmod qfrac
  rw [qfloor_of]
  have h := qsub_of q (q.floor : Rat)
  rw [Rat.num_intCast, Rat.den_intCast] at h
  simpa using h
theorem qrest_zero (q : Rat) : wmod q.num q.den = 0 ↔ (q.floor : Rat) = q := by
  have h := qfrac_of q
  constructor
  · intro e
    rw [e, Rat.zero_divInt] at h
    unfold qfrac at h
    grind
  · intro e
    have : qfrac q = 0 := by unfold qfrac; grind
    rw [this] at h
    have h2 := (Rat.divInt_eq_divInt_iff (d₂ := 1) (n₂ := 0) (n₁ := wmod q.num q.den) (d₁ := q.den) (by have := qden_pos q; omega) (by decide)).1 (by rw [h, Rat.zero_divInt])
    omega
theorem qceil_ref (q : Rat) : (if wmod q.num q.den = 0 then q.floor else q.floor + 1) = q.ceil := by
  have h1 := Rat.floor_le q
  have h2 := Rat.lt_floor_add_one q
  split
  · next h =>
    have h := (qrest_zero q).1 h
    rw [← h, Rat.floor_intCast, Rat.ceil_intCast]
  · next h =>
    have h := mt (qrest_zero q).2 h
    refine Int.le_antisymm ?_ ?_
    · have : q.floor < q.ceil := by
        rw [Rat.lt_ceil_iff]
        exact Rat.lt_of_le_of_ne h1 h
      omega
    · rw [Rat.ceil_le_iff]
      exact Rat.le_of_lt h2
theorem ediv_abs_le {a b : Int} (hb : 0 < b) : (a / b).natAbs ≤ a.natAbs := by
  have h1 := Int.mul_ediv_add_emod a b
  have h2 := Int.emod_nonneg a (Int.ne_of_gt hb)
  have h3 := Int.emod_lt_of_pos a hb
  generalize a % b = r at *
  generalize a / b = q at *
  rcases Int.lt_trichotomy q 0 with h | h | h
  · have h4 : (b - 1) * q ≤ (b - 1) * (-1) := Int.mul_le_mul_of_nonneg_left (by omega) (by omega)
    rw [Int.sub_mul, Int.one_mul] at h4
    omega
  · omega
  · have h4 : 1 * q ≤ b * q := Int.mul_le_mul_of_nonneg_right (by omega) (by omega)
    omega
theorem qfloor_abs (q : Rat) : q.floor.natAbs ≤ q.num.natAbs := by rw [Rat.floor_def]; exact ediv_abs_le (qden_pos q)
theorem qceil_abs (q : Rat) : q.ceil.natAbs ≤ q.num.natAbs := by
  rw [Rat.ceil_eq_neg_floor_neg, Int.natAbs_neg]
  have := qfloor_abs (-q)
  rw [Rat.neg_num, Int.natAbs_neg] at this
  exact this
end Go.Proofs.YticjhlbmdjijnaaGreatDoor
