/- Sealed bytes of which one is turned are not opened: plain. No condition. -/
import Derived.Test.YtdlcngmcjidomaaDoorCrcW
namespace Go.Proofs.YtdlcngmcjidomaaDoor
theorem xor_ne {x y : Nat} (h : y ≠ 0) : x ^^^ y ≠ x := by
  intro e
  have := congrArg (x ^^^ ·) e
  simp only [Nat.xor_self] at this
  rw [← Nat.xor_assoc, Nat.xor_self, Nat.zero_xor] at this
  exact h this
theorem split_at (l : List Nat) (j : Nat) (h : j < l.length) : l = l.take j ++ [l[j]] ++ l.drop (j + 1) := by
  rw [List.append_assoc, List.singleton_append, List.getElem_cons_drop h, List.take_append_drop]
theorem set_split (l : List Nat) (j y : Nat) (h : j < l.length) : l.set j y = l.take j ++ [y] ++ l.drop (j + 1) := by
  rw [List.set_eq_take_append_cons_drop, if_pos h, List.append_assoc, List.singleton_append]
/-- One byte turned: another sum. -/
theorem sum_set (l : List Nat) (hl : ∀ x ∈ l, x < 256) (j y : Nat) (h : j < l.length) (hy : y < 256) (hne : y ≠ l[j]) : Crc.sum (l.set j y) ≠ Crc.sum l := by
  have h1 := split_at l j h
  rw [set_split l j y h]
  intro e
  rw [h1] at e
  have h2 : (l.take j ++ [l[j]] ++ l.drop (j + 1)).take j = l.take j := by rw [List.append_assoc]; exact List.take_left' (by simp; omega)
  have h3 : (l.take j ++ [l[j]] ++ l.drop (j + 1)).drop (j + 1) = l.drop (j + 1) := by rw [← h1]
  rw [h2, h3] at e
  exact Crc.sum_mid (l.take j) [y] [l[j]] (l.drop (j + 1)) (fun c hc => hl c (List.mem_of_mem_take hc)) (by simpa using hy) (by simpa using hl _ (List.getElem_mem h)) (fun c hc => hl c (List.mem_of_mem_drop hc)) rfl (by simp) (by simpa using hne) e
theorem openL_turned (l : List Nat) (hl : ∀ x ∈ l, x < 256) (k x y : Nat) (hx : (seal_ l)[k]? = some x) (hxl : x < 256) (hyl : y < 256) :
    (openL ((seal_ l).set k (x ^^^ y))).2 = decide (y = 0) := by
  by_cases hy : y = 0
  · subst hy
    have : (seal_ l).set k (x ^^^ 0) = seal_ l := by
      rw [Nat.xor_zero]
      obtain ⟨hk, rfl⟩ := List.getElem?_eq_some_iff.1 hx
      exact List.set_getElem_self hk
    rw [this, openL_seal]
    rfl
  · rw [decide_eq_false hy]
    have hz : x ^^^ y < 256 := Nat.xor_lt_two_pow (n := 8) hxl hyl
    have hne : x ^^^ y ≠ x := xor_ne hy
    generalize x ^^^ y = z at *
    rw [openL_no]
    rintro ⟨_, h⟩
    have hs := Crc.sum_lt l
    by_cases hk : k < 4
    · have h1 : ((seal_ l).set k z).drop 4 = l := by
        rw [List.drop_set_of_lt hk]
        exact List.drop_left' rfl
      have h2 : ((seal_ l).set k z).take 4 = (four (Crc.sum l)).set k z := by
        rw [List.take_set]
        exact congrArg (fun m : List Nat => m.set k z) (List.take_left' rfl)
      rw [h1, h2] at h
      have h3 := (four_iff (Crc.sum l) _ hs (by simp [four]) (fun c hc => by
        rcases List.mem_or_eq_of_mem_set hc with hc | rfl
        · exact four_lt _ c hc
        · exact hz)).2 h
      have h4 : (four (Crc.sum l))[k]? = some x := by
        rw [← hx]; unfold seal_; rw [List.getElem?_append_left (by simpa [four] using hk)]
      rw [h3, List.getElem?_set_self (by simpa [four] using hk)] at h4
      exact hne (Option.some.inj h4)
    · have hk2 : k < (seal_ l).length := (List.getElem?_eq_some_iff.1 hx).1
      have hlen : (seal_ l).length = 4 + l.length := by simp [seal_, four]; omega
      have hj : k - 4 < l.length := by omega
      have h1 : ((seal_ l).set k z).drop 4 = l.set (k - 4) z := by
        have e : (seal_ l).set k z = four (Crc.sum l) ++ l.set (k - 4) z := by
          unfold seal_
          rw [List.set_append_right _ _ (by rw [four_len]; omega), four_len]
        rw [e]
        exact List.drop_left' rfl
      have h2 : ((seal_ l).set k z).take 4 = four (Crc.sum l) := by
        rw [List.take_set_of_le (by omega)]
        exact List.take_left' rfl
      rw [h1, h2, num_four _ hs] at h
      have hx' : l[k - 4]? = some x := by
        rw [← hx]; unfold seal_; rw [List.getElem?_append_right (by rw [four_len]; omega), four_len]
      have hx2 : l[k - 4] = x := Option.some.inj ((List.getElem?_eq_getElem hj).symm.trans hx')
      exact sum_set l hl (k - 4) z hj hz (by rw [hx2]; exact hne) h

end Go.Proofs.YtdlcngmcjidomaaDoor
