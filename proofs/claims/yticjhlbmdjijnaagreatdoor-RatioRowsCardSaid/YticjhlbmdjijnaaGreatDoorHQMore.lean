/- Contracts and plain facts that the laws of layer 3 want. No condition. No condition but the reach of a slice. -/
import Derived.Test.YticjhlbmdjijnaaGreatDoorHQP2
import Derived.Test.YticjhlbmdjijnaaGreatDoorHQRP2
import Derived.Test.YticjhlbmdjijnaaGreatDoorHQT
import Derived.Test.YticjhlbmdjijnaaGreatDoorHQU
import Derived.Test.YticjhlbmdjijnaaGreatDoorHQG
import Derived.Test.YticjhlbmdjijnaaGreatDoorHQF
import Derived.Test.YticjhlbmdjijnaaGreatDoorHQE
import Derived.Test.YticjhlbmdjijnaaGreatDoorHQS
import Derived.Test.YticjhlbmdjijnaaGreatDoorHQAwake
namespace Go.Proofs.YticjhlbmdjijnaaGreatDoor
set_option linter.unusedSimpArgs false
set_option linter.unusedVariables false
open Go.RowKit

theorem qdiv_b {w : World} {a b a' b' : Bool} {A B A' B' : Option Addr} {n c m d n' c' m' d' : Nat} {x y x' y' : Int} {i j i' j' : Nat} {p q p' q' : Bool} (ha : ZIs w a A n c x i p) (hb : ZIs w b B m d y j q) (ha' : ZIs w a' A' n' c' x' i' p') (hb' : ZIs w b' B' m' d' y' j' q') {k : Nat} (hi : i ≤ k) (hj : j ≤ k) (hi' : i' ≤ k) (hj' : j' ≤ k) (hk : k ≤ 65536) (h1 : 1 ≤ k) {r s : Rat} (hr : qv x y = r) (hs : qv x' y' = s) {v : Rat} (hv : (if s = 0 then 0 else r / s) = v) {ok : Bool} (hok : decide (s ≠ 0) = ok) : Calls Tryz.prog 30 #[.agg #[.bool a, .slice A n c, .bool b, .slice B m d], .agg #[.bool a', .slice A' n' c', .bool b', .slice B' m' d']] w fun e w' => ∃ b3 A3 n3 b4 A4 n4, e = .returned (.tuple #[.agg #[.bool b3, .slice A3 n3 n3, .bool b4, .slice A4 n4 n4], .bool ok]) ∧ ZIs w' b3 A3 n3 n3 (v.num) (2 * k) true ∧ ZIs w' b4 A4 n4 n4 ((v.den : Nat) : Int) (2 * k) true ∧ Below w.heap.size w w' := by
  by_cases h0 : s = 0
  · rw [if_pos h0] at hv; subst hv
    rw [decide_eq_false (fun h => h h0)] at hok; subst hok
    refine (qdiv_zero ha hb ha' hb' hi hj hi' hj' hk h1 hr hs h0).mono ?_
    rintro e w' ⟨b3, A3, n3, b4, A4, n4, rfl, z1, z2, hb⟩
    exact ⟨_, _, _, _, _, _, rfl, z1.mono (by omega), z2.mono (by omega), hb⟩
  · rw [if_neg h0] at hv; subst hv
    rw [decide_eq_true h0] at hok; subst hok
    exact qdiv ha hb ha' hb' hi hj hi' hj' hk h1 hr hs h0
theorem rqdiv_b {w : World} {a b a' b' : Bool} {A B A' B' : Option Addr} {n c m d n' c' m' d' : Nat} {x y x' y' : Int} {i j i' j' : Nat} {p q p' q' : Bool} (ha : ZIs w a A n c x i p) (hb : ZIs w b B m d y j q) (ha' : ZIs w a' A' n' c' x' i' p') (hb' : ZIs w b' B' m' d' y' j' q') {k : Nat} (hi : i ≤ k) (hj : j ≤ k) (hi' : i' ≤ k) (hj' : j' ≤ k) (hk : k ≤ 4096) (h1 : 1 ≤ k) {r s : Rat} (hr : qv x y = r) (hs : qv x' y' = s) {v : Rat} (hv : (if s = 0 then 0 else r / s) = v) {ok : Bool} (hok : decide (s ≠ 0) = ok) : Calls Tryz.prog 31 #[.agg #[.bool a, .slice A n c, .bool b, .slice B m d], .agg #[.bool a', .slice A' n' c', .bool b', .slice B' m' d']] w fun e w' => ∃ b3 A3 n3 c3 b4 A4 n4 c4, e = .returned (.tuple #[.agg #[.bool b3, .slice A3 n3 c3, .bool b4, .slice A4 n4 c4], .bool ok]) ∧ ZIs w' b3 A3 n3 c3 (v.num) (2 * k) true ∧ ZIs w' b4 A4 n4 c4 ((v.den : Nat) : Int) (2 * k) true ∧ Below w.heap.size w w' := by
  by_cases h0 : s = 0
  · rw [if_pos h0] at hv; subst hv
    rw [decide_eq_false (fun h => h h0)] at hok; subst hok
    refine (rqdiv_zero ha hb ha' hb' hi hj hi' hj' hk h1 hr hs h0).mono ?_
    rintro e w' ⟨b3, A3, n3, c3, b4, A4, n4, c4, rfl, z1, z2, hb⟩
    exact ⟨_, _, _, _, _, _, _, _, rfl, z1.mono (by omega), z2.mono (by omega), hb⟩
  · rw [if_neg h0] at hv; subst hv
    rw [decide_eq_true h0] at hok; subst hok
    exact rqdiv ha hb ha' hb' hi hj hi' hj' hk h1 hr hs h0
theorem qmay_z {w : World} {a b : Bool} {A B : Option Addr} {n c m d : Nat} {x y : Int} {i j : Nat} {p q : Bool} (ha : ZIs w a A n c x i p) (hb : ZIs w b B m d y j q) (hj : j ≤ 268435456) {z : Bool} (hz : decide (0 < y) = z) : Calls Tryz.prog 32 #[.agg #[.bool a, .slice A n c, .bool b, .slice B m d]] w fun e w' => e = .returned (.bool z) ∧ Below w.heap.size w w' := by
  subst hz; exact qmay ha hb hj
theorem qcmp_cases (a b : Rat) : qcmp a b = -1 ∨ qcmp a b = 0 ∨ qcmp a b = 1 := by
  unfold qcmp; split
  · exact Or.inl rfl
  · split
    · exact Or.inr (Or.inr rfl)
    · exact Or.inr (Or.inl rfl)
theorem qcmp_lt {a b : Rat} : qcmp a b = -1 ↔ a < b := by
  unfold qcmp; constructor
  · intro h; split at h
    · assumption
    · split at h <;> simp at h
  · intro h; rw [if_pos h]
theorem qcmp_gt {a b : Rat} : qcmp a b = 1 ↔ b < a := by
  unfold qcmp; constructor
  · intro h; split at h
    · simp at h
    · split at h
      · assumption
      · simp at h
  · intro h; rw [if_neg (by grind), if_pos h]
theorem qcmp_eq {a b : Rat} : qcmp a b = 0 ↔ a = b := by
  unfold qcmp; constructor
  · intro h; split at h
    · simp at h
    · split at h
      · simp at h
      · grind
  · intro h; subst h; rw [if_neg (by grind), if_neg (by grind)]
theorem qcmp_swap (a b : Rat) : qcmp b a = - qcmp a b := by
  rcases qcmp_cases a b with h | h | h
  · rw [h]; exact qcmp_gt.2 (qcmp_lt.1 h)
  · rw [h]; exact qcmp_eq.2 (qcmp_eq.1 h).symm
  · rw [h]; exact qcmp_lt.2 (qcmp_gt.1 h)
theorem qcmp_sub (a b : Rat) : qcmp (a - b) 0 = qcmp a b := by
  rcases qcmp_cases a b with h | h | h
  · rw [h]; refine qcmp_lt.2 ?_; have := qcmp_lt.1 h; grind
  · rw [h]; refine qcmp_eq.2 ?_; have := qcmp_eq.1 h; grind
  · rw [h]; refine qcmp_gt.2 ?_; have := qcmp_gt.1 h; grind
theorem qfrac_lo (r : Rat) : 0 ≤ qfrac r := by
  unfold qfrac; have := Rat.floor_le r; grind
theorem qfrac_hi (r : Rat) : qfrac r < 1 := by
  unfold qfrac; have := Rat.lt_floor_add_one r; grind
theorem qcmp_one (r : Rat) : qcmp (qfrac r) 1 = -1 := qcmp_lt.2 (qfrac_hi r)
theorem qcmp_zero (r : Rat) : qcmp (qfrac r) 0 = 0 ∨ qcmp (qfrac r) 0 = 1 := by
  rcases qcmp_cases (qfrac r) 0 with h | h | h
  · exact absurd (qcmp_lt.1 h) (by have := qfrac_lo r; grind)
  · exact Or.inl h
  · exact Or.inr h
theorem qmid_a (a b : Rat) : qcmp a ((a + b) / 2) = qcmp a b := by
  have e : (a + b) / 2 + (a + b) / 2 = a + b := by grind
  generalize (a + b) / 2 = m at e
  rcases qcmp_cases a b with h | h | h
  · rw [h]; refine qcmp_lt.2 ?_; have := qcmp_lt.1 h; grind
  · rw [h]; refine qcmp_eq.2 ?_; have := qcmp_eq.1 h; grind
  · rw [h]; refine qcmp_gt.2 ?_; have := qcmp_gt.1 h; grind
theorem qmid_b (a b : Rat) : qcmp ((a + b) / 2) b = qcmp a b := by
  have e : (a + b) / 2 + (a + b) / 2 = a + b := by grind
  generalize (a + b) / 2 = m at e
  rcases qcmp_cases a b with h | h | h
  · rw [h]; refine qcmp_lt.2 ?_; have := qcmp_lt.1 h; grind
  · rw [h]; refine qcmp_eq.2 ?_; have := qcmp_eq.1 h; grind
  · rw [h]; refine qcmp_gt.2 ?_; have := qcmp_gt.1 h; grind
theorem qone_of : Rat.divInt 1 1 = (1 : Rat) := by decide +kernel
theorem qtwo_of : Rat.divInt 2 1 = (2 : Rat) := by decide +kernel
theorem qnum_eq {r s : Rat} (h : r = s) : decide (r.num = s.num) = true := by subst h; exact decide_eq_true rfl
end Go.Proofs.YticjhlbmdjijnaaGreatDoor
