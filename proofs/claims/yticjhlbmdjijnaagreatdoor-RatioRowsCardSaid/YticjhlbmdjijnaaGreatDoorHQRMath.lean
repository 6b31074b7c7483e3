/- More of fractions: signs and inverses; three results. No condition. -/
import Derived.Test.YticjhlbmdjijnaaGreatDoorHQ
namespace Go.Proofs.YticjhlbmdjijnaaGreatDoor
set_option linter.unusedSimpArgs false
set_option linter.unusedVariables false
open Go.RowKit

theorem qv_resign {x y : Int} (h : y ≠ 0) : qv (zv (decide (x < 0) != decide (y < 0)) x.natAbs) (zv false y.natAbs) = Rat.divInt x y := by
  have hx := zv_of x
  rw [zv_false, qv_pos (by omega)]
  by_cases hy : y < 0
  · rw [decide_eq_true hy]
    have : zv (decide (x < 0) != true) x.natAbs = -x := by rw [show (decide (x < 0) != true) = !decide (x < 0) by cases decide (x < 0) <;> rfl, zv_not, hx]
    rw [this, show ((y.natAbs : Nat) : Int) = -y by omega, qdiv_neg]
  · rw [decide_eq_false hy]
    have : zv (decide (x < 0) != false) x.natAbs = x := by rw [show (decide (x < 0) != false) = decide (x < 0) by cases decide (x < 0) <;> rfl, hx]
    rw [this, show ((y.natAbs : Nat) : Int) = y by omega]
theorem qv_inv {s : Rat} (h : s ≠ 0) : qv (zv (decide (s.num < 0)) (s.den : Int).natAbs) (zv false s.num.natAbs) = s⁻¹ := by
  have h0 : s.num ≠ 0 := fun e => h ((qnum_zero s).1 e)
  have := qv_resign (x := (s.den : Int)) h0
  rw [decide_eq_false (show ¬ ((s.den : Int) < 0) by omega)] at this
  rw [Rat.inv_def, ← this]
  congr 2
  cases decide (s.num < 0) <;> rfl
theorem qone_text (v : Nat) : decTxt v = [49] ↔ v = 1 := by
  constructor
  · intro h
    have := (dec_decTxt v).1
    rw [h] at this
    simpa [dec] using this.symm
  · rintro rfl
    exact decTxt_small (by decide)

section
variable {P : Program} {fn : Func} {p q r : Tmp} {ty : TypeId}
theorem results_row3 (h : fn.results = #[.cell p ty, .cell q ty, .cell r ty]) (tmps : Array Value) (w : World) (g g' g2 : Nat) (t t' t2 : TypeId) (cs cs' cs2 : Array Value) (fr fr' fr2 : Nat × Nat) (d : TypeDesc)
    (hp : tmps.getD p undef = .pointer (some ⟨g, 0, none⟩)) (hg : w.heap[g]? = some (.cells cs t fr)) (hq : tmps.getD q undef = .pointer (some ⟨g', 0, none⟩)) (hg' : w.heap[g']? = some (.cells cs' t' fr'))
    (hr : tmps.getD r undef = .pointer (some ⟨g2, 0, none⟩)) (hg2 : w.heap[g2]? = some (.cells cs2 t2 fr2))
    (hu : P.underlying ty = some d) (hd : (match d with | .struct _ | .array _ _ => true | _ => false) = true) (hi : (P.info? ty).map (·.size) = some cs.size) (hi' : (P.info? ty).map (·.size) = some cs'.size) (hi2 : (P.info? ty).map (·.size) = some cs2.size) :
    (results fn tmps).run P w = .ok (.tuple #[.agg cs, .agg cs', .agg cs2]) w := by
  have hp' : tmps[p]?.getD undef = .pointer (some ⟨g, 0, none⟩) := by simpa using hp
  have hq' : tmps[q]?.getD undef = .pointer (some ⟨g', 0, none⟩) := by simpa using hq
  have hr' : tmps[r]?.getD undef = .pointer (some ⟨g2, 0, none⟩) := by simpa using hr
  simp [results, h, hp', hq', hr', asAddr, run_loadVar_row w g t ty cs fr d hg hu hd hi, run_loadVar_row w g' t' ty cs' fr' d hg' hu hd hi', run_loadVar_row w g2 t2 ty cs2 fr2 d hg2 hu hd hi2]
end
end Go.Proofs.YticjhlbmdjijnaaGreatDoor
