/- What becomes of a disk in the law DiskQuiet: plain lists. No condition. -/
import Derived.Test.YtfoeapjlklfjgaaDoorDMath2
namespace Go.Proofs.YtfoeapjlklfjgaaDoor
set_option linter.unusedSimpArgs false
set_option linter.unusedVariables false
namespace DSt
section
variable {s : DSt}
theorem has_not {s : DSt} {i : Int} (h : (s.sure.length : Int) ≤ i) : s.has i = false := decide_eq_false (by omega)
theorem write_long (hd : s.down = false) (i : Int) {l : List Nat} (hl : l.length ≠ 64) : s.write i l = (s, 1) := write_arg hd (by rw [decide_eq_false hl, Bool.and_false])
theorem write_far (hd : s.down = false) {i : Int} (hi : (s.sure.length : Int) ≤ i) (l : List Nat) : s.write i l = (s, 1) := write_arg hd (by rw [has_not hi]; rfl)
theorem write_sure (i : Int) (l : List Nat) : (s.write i l).1.sure = s.sure := by
  unfold DSt.write
  split
  · rfl
  · split
    · split <;> rfl
    · rfl
end
end DSt
theorem Wk.plan {s : DSt} {N : Nat} (k : Nat) (h1 : s.down = false) (h2 : s.sure.length = N) (h3 : s.pend = []) : Wk (s.plan (k : Int)) N k 0 :=
  ⟨h2, by show max (k : Int) 0 = k; omega, by show s.down = _; rw [h1]; exact (decide_eq_false (by omega)).symm, Nat.zero_le _, fun _ => rfl, by show s.pend.length ≤ 0; rw [h3]; exact Nat.le_refl _⟩
end Go.Proofs.YtfoeapjlklfjgaaDoor
