/- The answers that a law of layer 4 asks first. No condition. -/
import Derived.Test.YtjdgkeajjmoglaaCrcWalks
namespace Go.Proofs.Ytjdgkeajjmoglaa
open Go.RowKit

def probe : List Nat := [38, 57, 244, 203, 49, 50, 51, 52, 53, 54, 55, 56, 57]
def digits9 : List Nat := [49, 50, 51, 52, 53, 54, 55, 56, 57]
theorem probe_sum : Crc.sum digits9 = 3421780262 := by decide +kernel
set_option maxRecDepth 100000 in
set_option maxHeartbeats 400000 in
theorem awake_any (w : World) : Calls Try.prog 14 #[] w fun e w' => e = .returned (.bool true) ∧ Below w.heap.size w w' := by
  have hp : Crc.sum (probe.drop 4) = Crc.num (probe.take 4) := by decide +kernel
  have kc := conv_const (P := Try.prog) 22 5 Try.underlying22 Try.underlying5
  go_enter Try.func14, Try.ntmps14
  go_wp2_with fail
  refine (open_both _ 13 13 probe _ (Ints.lit .u8 256 5 (n := 13) probe rfl rfl rfl (by decide)) (by omega) (by omega)).mono ?_
  rintro e w1 ⟨hb1, hy, _⟩
  obtain ⟨A1, c1, rfl, ho1⟩ := hy hp
  clear hy hp
  have hbel1 : Below w.heap.size w w1 := below_step ((Below.refl _ _).alloc (Nat.le_refl _) _) hb1 (by simp)
  go_wp2_with fail
  refine (open_short _ 3 3 _ (by omega)).mono ?_
  rintro e w2 ⟨rfl, rfl⟩
  go_wp2_with fail
  refine (sum_any _ 9 9 digits9 _ (Ints.lit .u8 256 5 (n := 9) digits9 (by simp) rfl rfl (by decide)) (by omega)).mono ?_
  rintro e w3 ⟨rfl, hb3⟩
  rw [probe_sum]
  go_wp2_with fail
  refine (seal_any none 0 0 [] _ (Ints.nil_ _ _ _ _ _) (by omega)).mono ?_
  rintro e w4 ⟨A4, c4, rfl, ho4, hb4⟩
  go_wp2_with fail
  go_ret
  have hs3 := hb3.size
  have hb2 := below_step ((hbel1.alloc hbel1.size (.cells #[.int .u8 1, .int .u8 2, .int .u8 3] 5)).alloc (by simp; have := hbel1.size; omega) _) hb3 (by simp; have := hbel1.size; omega)
  exact ⟨rfl, below_step hb2 hb4 hb2.size⟩
end Go.Proofs.Ytjdgkeajjmoglaa
