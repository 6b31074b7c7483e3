/- heijunkalaw03.few. No condition. -/
import Derived.Test.YticjhlbmdjijnaaGreatDoorHQ
namespace Go.Proofs.YticjhlbmdjijnaaGreatDoor
set_option linter.unusedSimpArgs false
set_option linter.unusedVariables false
open Go.RowKit

set_option maxRecDepth 100000 in
set_option maxHeartbeats 800000 in
theorem qfew (a b : Bool) (A B : Option Addr) (n c m d : Nat) (w : World) : Calls Tryz.prog 13 #[.agg #[.bool a, .slice A n c, .bool b, .slice B m d]] w fun e w' => e = .returned (.bool (decide (n ≤ 4 ∧ m ≤ 4))) ∧ Below w.heap.size w w' := by
  have R0 := (Env.nil_ w).alloc 26 #[.bool a, .slice A n c, .bool b, .slice B m d] (g := w.heap.size) rfl rfl
  have k1 := R0.cell 0 1 rfl rfl
  have k3 := R0.cell 0 3 rfl rfl
  have hb := Lib.hid R0.bel
  clear R0
  by_cases h1 : n ≤ 4
  · have e1 : decide ((n : Int) ≤ 4) = true := decide_eq_true (by omega)
    by_cases h2 : m ≤ 4
    · have e2 : decide ((m : Int) ≤ 4) = true := decide_eq_true (by omega)
      rw [decide_eq_true (show n ≤ 4 ∧ m ≤ 4 from ⟨h1, h2⟩)]
      clear h1 h2
      go_enter Tryz.func13, Tryz.ntmps13
      go_wp2_with fail
      go_ret
      exact ⟨rfl, hb.out⟩
    · have e2 : decide ((m : Int) ≤ 4) = false := decide_eq_false (by omega)
      rw [decide_eq_false (show ¬ (n ≤ 4 ∧ m ≤ 4) from fun h => h2 h.2)]
      clear h1 h2
      go_enter Tryz.func13, Tryz.ntmps13
      go_wp2_with fail
      go_ret
      exact ⟨rfl, hb.out⟩
  · have e1 : decide ((n : Int) ≤ 4) = false := decide_eq_false (by omega)
    rw [decide_eq_false (show ¬ (n ≤ 4 ∧ m ≤ 4) from fun h => h1 h.1)]
    clear h1
    go_enter Tryz.func13, Tryz.ntmps13
    go_wp2_with fail
    go_ret
    exact ⟨rfl, hb.out⟩
end Go.Proofs.YticjhlbmdjijnaaGreatDoor
