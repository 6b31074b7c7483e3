/- math/bits: Sub32, Add32, Div32, by their contracts. No condition but the numbers' ranges. -/
import Derived.Test.YticheiocmhaakaaDoorMore
namespace Go.Proofs.YticheiocmhaakaaDoor
open Go.RowKit

namespace Num
/-- The highest bit of 32. -/
theorem top_bit (n : Nat) (h : n < 4294967296) : n / 2147483648 = (n.testBit 31).toNat := by
  rw [Nat.testBit_eq_decide_div_mod_eq]
  have h2 : (2 : Nat) ^ 31 = 2147483648 := by decide
  rw [h2]
  have h1 : n / 2147483648 < 2 := by omega
  rcases Nat.lt_or_ge (n / 2147483648) 1 with h0 | h0
  · have : n / 2147483648 = 0 := by omega
    simp [this]
  · have : n / 2147483648 = 1 := by omega
    simp [this]
theorem not_bit (n : Nat) (h : n < 4294967296) : (4294967295 - n).testBit 31 = !n.testBit 31 := by
  have := Nat.testBit_two_pow_sub_succ (n := 32) (x := n) (by omega) 31
  rw [show (2 : Nat) ^ 32 - (n + 1) = 4294967295 - n by omega] at this
  rw [this]
  simp
theorem borrow32 (x y b d bo : Nat) (hx : x < 4294967296) (hy : y < 4294967296) (hb : b ≤ 1) (hd : d < 4294967296) (hbo : bo ≤ 1) (h : d + y + b = x + 4294967296 * bo) :
    (((4294967295 - x) &&& y) ||| ((4294967295 - (x ^^^ y)) &&& d)) / 2147483648 = bo := by
  have hxy : x ^^^ y < 4294967296 := Nat.xor_lt_two_pow (n := 32) (by omega) (by omega)
  have h1 : ((4294967295 - x) &&& y) < 4294967296 := Nat.lt_of_le_of_lt Nat.and_le_right hy
  have h2 : ((4294967295 - (x ^^^ y)) &&& d) < 4294967296 := Nat.lt_of_le_of_lt Nat.and_le_right hd
  rw [top_bit _ (Nat.or_lt_two_pow (n := 32) (by omega) (by omega)), Nat.testBit_or, Nat.testBit_and, Nat.testBit_and, not_bit _ hx, not_bit _ hxy, Nat.testBit_xor]
  have bx := top_bit x hx
  have by' := top_bit y hy
  have bd := top_bit d hd
  generalize x.testBit 31 = p at *
  generalize y.testBit 31 = q at *
  generalize d.testBit 31 = r at *
  cases p <;> cases q <;> cases r <;> simp only [Bool.toNat_true, Bool.toNat_false] at bx by' bd ⊢ <;> simp <;> omega
end Num

theorem ones_xor (y : Nat) (h : y < 4294967296) : bits .xor .u32 IntKind.u32.max (y : Int) = ((4294967295 - y : Nat) : Int) := by
  have e : IntKind.u32.max = ((4294967295 : Nat) : Int) := by decide
  rw [e, u32_xor_nat _ _ (by omega) h]
  have h1 : (BitVec.allOnes 32 ^^^ BitVec.ofNat 32 y).toNat = (~~~ (BitVec.ofNat 32 y)).toNat := by rw [BitVec.allOnes_xor]
  rw [BitVec.toNat_xor, BitVec.toNat_not, BitVec.toNat_allOnes, BitVec.toNat_ofNat, Nat.mod_eq_of_lt (by simpa using h)] at h1
  exact congrArg _ h1

set_option maxRecDepth 100000 in
theorem sub32_any (x y b d bo : Nat) (w : World) (hx : x < 4294967296) (hy : y < 4294967296) (hb : b ≤ 1) (hd : d < 4294967296) (hbo : bo ≤ 1) (h : d + y + b = x + 4294967296 * bo) :
    Calls Tryd.prog 37 #[.int .u32 x, .int .u32 y, .int .u32 b] w fun e w' => e = .returned (.tuple #[.int .u32 d, .int .u32 bo]) ∧ w' = w := by
  have HB := Lib.hid (Num.borrow32 x y b d bo hx hy hb hd hbo h)
  have hxy : x ^^^ y < 4294967296 := Nat.xor_lt_two_pow (n := 32) (by omega) (by omega)
  have n1 := ones_xor x hx
  have n2 := u32_xor_nat x y hx hy
  have n3 := ones_xor (x ^^^ y) hxy
  have n4 := u32_and_nat (4294967295 - x) y (by omega) hy
  have n5 := u32_and_nat (4294967295 - (x ^^^ y)) d (by omega) hd
  have n6 := u32_or_nat ((4294967295 - x) &&& y) ((4294967295 - (x ^^^ y)) &&& d) (Nat.lt_of_le_of_lt Nat.and_le_right hy) (Nat.lt_of_le_of_lt Nat.and_le_right hd)
  have hdd : ((x : Int) - y - b) % 4294967296 = (d : Int) := by omega
  go_enter Tryd.func37, Tryd.ntmps37
  go_wp2
  go_ret2
  have e : ((((4294967295 - x) &&& y) ||| ((4294967295 - (x ^^^ y)) &&& d) : Nat) : Int) / 2147483648 = (bo : Int) := by
    have := HB.out
    omega
  exact ⟨by rw [e]; rfl, rfl⟩

set_option maxRecDepth 100000 in
theorem add32_any (x y c s co : Nat) (w : World) (hx : x < 4294967296) (hy : y < 4294967296) (hc : c ≤ 1) (hs : s < 4294967296) (h : s + 4294967296 * co = x + y + c) :
    Calls Tryd.prog 74 #[.int .u32 x, .int .u32 y, .int .u32 c] w fun e w' => e = .returned (.tuple #[.int .u32 s, .int .u32 co]) ∧ w' = w := by
  go_enter Tryd.func74, Tryd.ntmps74
  go_wp2
  go_ret2
  have e1 : ((x : Int) + y + c) % 4294967296 = (s : Int) := by omega
  have e2 : ((x : Int) + y + c) / 4294967296 = (co : Int) := by omega
  exact ⟨by rw [e1, e2]; rfl, rfl⟩

set_option maxRecDepth 100000 in
theorem div32_any (hi lo y q r : Nat) (w : World) (hl : lo < 4294967296) (hy : y < 4294967296) (hh : hi < y) (hr : r < y) (h : hi * 4294967296 + lo = y * q + r) :
    Calls Tryd.prog 58 #[.int .u32 hi, .int .u32 lo, .int .u32 y] w fun e w' => e = .returned (.tuple #[.int .u32 q, .int .u32 r]) ∧ ∃ k, w' = w.drewN k := by
  have hq : q < 4294967296 := by
    rcases Nat.lt_or_ge q 4294967296 with h1 | h1
    · exact h1
    · have := Nat.mul_le_mul_left y h1
      omega
  have ho := u64_or_nat (hi * 4294967296) lo (by omega) (by omega)
  rw [nat_join 32 _ _ (by omega) (by omega), h, Int.natCast_mul] at ho
  obtain ⟨M, hM⟩ : ∃ M, y * q + r = M := ⟨_, rfl⟩
  rw [hM] at ho
  replace ho : bits .or .u64 ((hi : Int) * 4294967296) (lo : Int) = (M : Int) := ho
  have hMl : M < 18446744073709551616 := by omega
  have hq1 : (M : Int) / (y : Int) = (q : Int) := by
    rw [← hM, ← Int.natCast_ediv, Nat.mul_add_div (by omega), Nat.div_eq_of_lt hr, Nat.add_zero]
  have hr1 : (M : Int) % (y : Int) = (r : Int) := by
    rw [← hM, ← Int.natCast_emod, Nat.mul_add_mod, Nat.mod_eq_of_lt hr]
  have hq2 : (M : Int).tdiv (y : Int) = (q : Int) := by rw [Int.tdiv_eq_ediv_of_nonneg (by omega), hq1]
  have hr2 : (M : Int).tmod (y : Int) = (r : Int) := by rw [Int.tmod_eq_emod_of_nonneg (by omega), hr1]
  have hy0 : ((y : Int) == 0) = false := by simp; omega
  have hy1 : ((y : Int) != 0) = true := by simp; omega
  have hd : decide (y ≤ hi) = false := by simp; omega
  clear hM
  go_enter Tryd.func58, Tryd.ntmps58
  go_wp2_with (go_quiet (fail))
  go_ret2
  exact ⟨rfl, nq, rfl⟩
end Go.Proofs.YticheiocmhaakaaDoor
