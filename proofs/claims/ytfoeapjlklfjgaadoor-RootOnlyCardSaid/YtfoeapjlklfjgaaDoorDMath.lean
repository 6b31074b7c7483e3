/- What becomes of a disk in the laws' loops: plain lists. No condition. -/
import Derived.Test.YtfoeapjlklfjgaaDoorDiskMath
namespace Go.Proofs.YtfoeapjlklfjgaaDoor
set_option linter.unusedSimpArgs false
set_option linter.unusedVariables false

/-- A disk of N sectors behind j writes that were asked for, planned to stop at 'stop'. -/
structure Wk (s : DSt) (N stop j : Nat) : Prop where
  len : s.sure.length = N
  st : s.stop = stop
  down : s.down = decide (0 < stop ∧ stop ≤ j)
  le : s.begun ≤ j
  beg : s.down = false → s.begun = j
  pend : s.pend.length ≤ j
theorem DSt.has_nat {s : DSt} {i N : Nat} (h : s.sure.length = N) (hi : i < N) : s.has (i : Int) = true := decide_eq_true ⟨by omega, by omega⟩
theorem DSt.beg_sure (s : DSt) : s.beg.sure = s.sure := rfl
theorem Wk.step {s : DSt} {N stop j : Nat} (h : Wk s N stop j) {i : Nat} (hi : i < N) {l : List Nat} (hl : l.length = 64) :
    Wk (s.write (i : Int) l).1 N stop (j + 1) ∧ (s.write (i : Int) l).2 = if stop = 0 ∨ j + 1 < stop then 0 else 4 := by
  have hh := DSt.has_nat h.len hi
  have hw : (s.has (i : Int) && decide (l.length = 64)) = true := by rw [hh, decide_eq_true hl]; rfl
  by_cases hd : s.down = true
  · rw [DSt.write_down hd]
    have h1 : 0 < stop ∧ stop ≤ j := of_decide_eq_true (h.down ▸ hd)
    exact ⟨⟨h.len, h.st, by rw [hd]; exact (decide_eq_true ⟨h1.1, by omega⟩).symm, Nat.le_trans h.le (by omega), (fun e => by have e : s.down = false := e; rw [hd] at e; cases e), Nat.le_trans h.pend (by omega)⟩, by rw [if_neg (by omega)]⟩
  · have hd : s.down = false := by simpa using hd
    have hb := h.beg hd
    have h1 : ¬ (0 < stop ∧ stop ≤ j) := of_decide_eq_false (h.down ▸ hd)
    have hg : s.goes = decide (stop = j + 1) := by
      unfold DSt.goes
      rw [hd, h.st, hb, Bool.false_or]
      by_cases e : stop = j + 1
      · rw [decide_eq_true e, decide_eq_true (by omega), decide_eq_true (by omega)]; rfl
      · rw [decide_eq_false e]
        rw [decide_eq_false (show ¬ ((j : Int) + 1 = (stop : Int)) by omega), Bool.and_false]
    by_cases e : stop = j + 1
    · rw [decide_eq_true e] at hg
      rw [DSt.write_goes hd hw hg]
      refine ⟨⟨h.len, h.st, ?_, ?_, fun e => ?_, ?_⟩, by rw [if_neg (by omega)]⟩
      · show s.goes = _
        rw [hg]; exact (decide_eq_true ⟨by omega, by omega⟩).symm
      · show s.begun + 1 ≤ _; omega
      · have : s.goes = false := e
        rw [hg] at this; cases this
      · have := h.pend; show s.pend.length ≤ _; omega
    · rw [decide_eq_false e] at hg
      rw [DSt.write_ok hd hw hg]
      refine ⟨⟨h.len, h.st, ?_, ?_, fun _ => ?_, ?_⟩, by rw [if_pos (by omega)]⟩
      · show s.goes = _
        rw [hg]; exact (decide_eq_false (by omega)).symm
      · show s.begun + 1 ≤ _; omega
      · show s.begun + 1 = _; omega
      · have := h.pend; show (s.pend ++ _).length ≤ _; simp; omega
theorem Wk.start (n k : Nat) : Wk ((DSt.new n).plan (k : Int)) n k 0 :=
  ⟨by show (List.replicate n _).length = n; simp, by show max (k : Int) 0 = k; omega, by show false = _; exact (decide_eq_false (by omega)).symm, Nat.zero_le _, fun _ => rfl, Nat.zero_le _⟩
theorem Wk.up {s : DSt} {N stop j : Nat} (h : Wk s N stop j) (l : List Nat) : Wk (s.up l) N 0 0 :=
  ⟨by show (DSt.layBy _ _ _).length = N; rw [DSt.len_layBy]; exact h.len, rfl, rfl, Nat.le_refl _, fun _ => rfl, Nat.zero_le _⟩
theorem Wk.flush {s : DSt} {N j : Nat} (h : Wk s N 0 j) : s.flush.2 = 0 := by
  have hd : s.down = false := by rw [h.down]; exact decide_eq_false (by omega)
  rw [DSt.flush_ok hd]
  unfold DSt.goes
  rw [hd, h.st]
  rfl
end Go.Proofs.YtfoeapjlklfjgaaDoor
