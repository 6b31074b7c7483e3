/- Decimal text and its value: plain mathematics. No condition. -/
import Derived.Test.YticheiocmhaakaaDoorParseMath
namespace Go.Proofs.YticheiocmhaakaaDoor

theorem decTxt_small {x : Nat} (h : x < 10) : decTxt x = [48 + x] := by
  obtain rfl | rfl | rfl | rfl | rfl | rfl | rfl | rfl | rfl | rfl : x = 0 ∨ x = 1 ∨ x = 2 ∨ x = 3 ∨ x = 4 ∨ x = 5 ∨ x = 6 ∨ x = 7 ∨ x = 8 ∨ x = 9 := by omega
  · rfl
  all_goals
    rw [decTxt_pos (by omega), Num.dig_pos (by decide) (by omega), show Num.dig 10 _ = [] from Num.dig_zero 10]
    rfl
theorem decTxt_snoc {x m : Nat} (h : x < 10) (hm : 0 < m) : decTxt (x + 10 * m) = decTxt m ++ [48 + x] := by
  rw [decTxt_pos (by omega), decTxt_pos hm, Num.dig_cons (by decide) h (by omega)]
  simp
theorem dec_decTxt (v : Nat) : dec (decTxt v) = v ∧ Digs (decTxt v) ∧ 1 ≤ (decTxt v).length ∧ (0 < v → (decTxt v)[0]? ≠ some 48) := by
  induction v using Nat.strongRecOn with
  | ind v ih =>
    rcases Nat.lt_or_ge v 10 with h | h
    · rw [decTxt_small h]
      refine ⟨by simp [dec], ?_, by simp, fun h0 => by simp; omega⟩
      intro c hc
      rw [List.mem_singleton.1 hc]
      omega
    · obtain ⟨i1, i2, i3, i4⟩ := ih (v / 10) (by omega)
      have e : v = v % 10 + 10 * (v / 10) := by omega
      rw [e, decTxt_snoc (by omega) (by omega)]
      refine ⟨?_, ?_, by simp, fun _ => ?_⟩
      · rw [dec_snoc, i1]; omega
      · intro c hc
        rcases List.mem_append.1 hc with hc | hc
        · exact i2 c hc
        · rw [List.mem_singleton.1 hc]; omega
      · rw [List.getElem?_append_left (by omega)]
        exact i4 (by omega)
theorem decTxt_len (k : Nat) : ∀ v, v < 10 ^ (k + 1) → (decTxt v).length ≤ k + 1 := by
  induction k with
  | zero => intro v h; rw [decTxt_small (by simpa using h)]; simp
  | succ k ih =>
    intro v h
    rcases Nat.lt_or_ge v 10 with h1 | h1
    · rw [decTxt_small h1]; simp
    · rw [show v = v % 10 + 10 * (v / 10) by omega, decTxt_snoc (by omega) (by omega), List.length_append]
      have := ih (v / 10) (by rw [Nat.pow_succ] at h; omega)
      simp
      omega
theorem reads_dec (v k : Nat) (h : v < 10 ^ (k + 1)) (hk : k < 40000) : Reads (decTxt v) := by
  obtain ⟨_, h2, h3, h4⟩ := dec_decTxt v
  refine ⟨h3, Nat.le_trans (decTxt_len k v h) hk, fun ⟨a, b⟩ => ?_, h2⟩
  rcases Nat.eq_zero_or_pos v with rfl | h0
  · rw [decTxt_zero] at a; simp at a
  · exact h4 h0 b
theorem digs_lt {l : List Nat} (h : Digs l) : ∀ x ∈ l, x < 256 := fun x hx => by have := h x hx; omega
theorem lead_bad (z : Nat) (l : List Nat) : ¬ Reads (48 :: z :: l) := fun h => h.lead ⟨by simp, rfl⟩
end Go.Proofs.YticheiocmhaakaaDoor
