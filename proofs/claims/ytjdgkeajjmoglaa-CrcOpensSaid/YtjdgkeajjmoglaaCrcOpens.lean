/- CrcOpens: sealed bytes of which one is turned aren't opened. No condition. -/
import Derived.Test.YtjdgkeajjmoglaaCrcAwake
namespace Go.Proofs.Ytjdgkeajjmoglaa
open Go.RowKit

theorem xor_ne {x y : Nat} (h : y ≠ 0) : x ^^^ y ≠ x := by
  intro e
  have := congrArg (x ^^^ ·) e
  simp only [Nat.xor_self] at this
  rw [← Nat.xor_assoc, Nat.xor_self, Nat.zero_xor] at this
  exact h this
theorem split_at (l : List Nat) (j : Nat) (h : j < l.length) : l = l.take j ++ [l[j]] ++ l.drop (j + 1) := by
  rw [List.append_assoc, List.singleton_append, List.getElem_cons_drop h, List.take_append_drop]
theorem set_split (l : List Nat) (j y : Nat) (h : j < l.length) : l.set j y = l.take j ++ [y] ++ l.drop (j + 1) := by
  rw [List.set_eq_take_append_cons_drop, if_pos h, List.append_assoc, List.singleton_append]
/-- One byte turned: another sum. -/
theorem sum_set (l : List Nat) (hl : ∀ x ∈ l, x < 256) (j y : Nat) (h : j < l.length) (hy : y < 256) (hne : y ≠ l[j]) : Crc.sum (l.set j y) ≠ Crc.sum l := by
  have h1 := split_at l j h
  rw [set_split l j y h]
  intro e
  rw [h1] at e
  have h2 : (l.take j ++ [l[j]] ++ l.drop (j + 1)).take j = l.take j := by rw [List.append_assoc]; exact List.take_left' (by simp; omega)
  have h3 : (l.take j ++ [l[j]] ++ l.drop (j + 1)).drop (j + 1) = l.drop (j + 1) := by rw [← h1]
  rw [h2, h3] at e
  exact Crc.sum_mid (l.take j) [y] [l[j]] (l.drop (j + 1)) (fun c hc => hl c (List.mem_of_mem_take hc)) (by simpa using hy) (by simpa using hl _ (List.getElem_mem h)) (fun c hc => hl c (List.mem_of_mem_drop hc)) rfl (by simp) (by simpa using hne) e
theorem openL_turned (l : List Nat) (hl : ∀ x ∈ l, x < 256) (k x y : Nat) (hx : (seal_ l)[k]? = some x) (hxl : x < 256) (hyl : y < 256) :
    (openL ((seal_ l).set k (x ^^^ y))).2 = decide (y = 0) := by
  by_cases hy : y = 0
  · subst hy
    have : (seal_ l).set k (x ^^^ 0) = seal_ l := by
      rw [Nat.xor_zero]
      obtain ⟨hk, rfl⟩ := List.getElem?_eq_some_iff.1 hx
      exact List.set_getElem_self hk
    rw [this, openL_seal]
    rfl
  · rw [decide_eq_false hy]
    have hz : x ^^^ y < 256 := Nat.xor_lt_two_pow (n := 8) hxl hyl
    have hne : x ^^^ y ≠ x := xor_ne hy
    generalize x ^^^ y = z at *
    rw [openL_no]
    rintro ⟨_, h⟩
    have hs := Crc.sum_lt l
    by_cases hk : k < 4
    · have h1 : ((seal_ l).set k z).drop 4 = l := by
        rw [List.drop_set_of_lt hk]
        exact List.drop_left' rfl
      have h2 : ((seal_ l).set k z).take 4 = (four (Crc.sum l)).set k z := by
        rw [List.take_set]
        exact congrArg (fun m : List Nat => m.set k z) (List.take_left' rfl)
      rw [h1, h2] at h
      have h3 := (four_iff (Crc.sum l) _ hs (by simp [four]) (fun c hc => by
        rcases List.mem_or_eq_of_mem_set hc with hc | rfl
        · exact four_lt _ c hc
        · exact hz)).2 h
      have h4 : (four (Crc.sum l))[k]? = some x := by
        rw [← hx]; unfold seal_; rw [List.getElem?_append_left (by simpa [four] using hk)]
      rw [h3, List.getElem?_set_self (by simpa [four] using hk)] at h4
      exact hne (Option.some.inj h4)
    · have hk2 : k < (seal_ l).length := (List.getElem?_eq_some_iff.1 hx).1
      have hlen : (seal_ l).length = 4 + l.length := by simp [seal_, four]; omega
      have hj : k - 4 < l.length := by omega
      have h1 : ((seal_ l).set k z).drop 4 = l.set (k - 4) z := by
        have e : (seal_ l).set k z = four (Crc.sum l) ++ l.set (k - 4) z := by
          unfold seal_
          rw [List.set_append_right _ _ (by rw [four_len]; omega), four_len]
        rw [e]
        exact List.drop_left' rfl
      have h2 : ((seal_ l).set k z).take 4 = four (Crc.sum l) := by
        rw [List.take_set_of_le (by omega)]
        exact List.take_left' rfl
      rw [h1, h2, num_four _ hs] at h
      have hx' : l[k - 4]? = some x := by
        rw [← hx]; unfold seal_; rw [List.getElem?_append_right (by rw [four_len]; omega), four_len]
      have hx2 : l[k - 4] = x := Option.some.inj ((List.getElem?_eq_getElem hj).symm.trans hx')
      exact sum_set l hl (k - 4) z hj hz (by rw [hx2]; exact hne) h

set_option maxRecDepth 100000 in
set_option maxHeartbeats 800000 in
theorem crcOpens_any (A : Option Addr) (n c : Nat) (l : List Nat) (at_ d : Nat) (w : World) (hr : Ints w .u8 256 A n c l) (hn : n ≤ maxLen) (hat : at_ < 65536) (hd : d < 256) :
    Calls Try.prog 5 #[.slice A n c, .int .u16 (at_ : Int), .int .u8 (d : Int)] w fun e w' => e = .returned (.bool true) ∧ Below w.heap.size w w' := by
  unfold maxLen at hn
  by_cases h3 : 3000 < n
  · go_enter Try.func5, Try.ntmps5
    go_wp2_with (go_at_call 14; refine (awake_any _).mono ?_; rintro e w1 ⟨rfl, b1⟩)
    go_ret
    exact ⟨rfl, b1⟩
  obtain ⟨k, hk⟩ : ∃ k, at_ % (4 + n) = k := ⟨_, rfl⟩
  have hkl : k < 4 + n := by rw [← hk]; exact Nat.mod_lt _ (by omega)
  have hmod : (at_ : Int) % (4 + (n : Int)) = (k : Int) := by rw [← hk]; simp
  clear hk
  obtain ⟨t, ht⟩ : ∃ t, decide (d = 0) = t := ⟨_, rfl⟩
  have ht' : ((d : Int) == 0) = t := by rw [← ht]; by_cases h : d = 0 <;> simp [h]
  have HT := Lib.hid ht
  clear ht
  go_enter Try.func5, Try.ntmps5
  go_wp2_with fail
  refine (awake_any _).mono ?_
  rintro e w1 ⟨rfl, b1⟩
  go_wp2_with fail
  refine (seal_any _ _ _ l _ (hr.below b1) (by omega)).mono ?_
  rintro e w2 ⟨A2, c2, rfl, o2, b2'⟩
  have b2 := below_step b1 b2' b1.size
  have hll := hr.len
  have hlt := hr.lt
  go_wp2_with (at_builtin; go_must (refine wpList_appI _ rfl _ _ _ rfl 5 1 Try.underlying22 info_u8 (by omega) (OwnI.empty (base := w2.heap.size) .u8 256 5 rfl (Nat.le_refl _)) rfl (o2.ints.alloc _) rfl (by omega) (by simp) ?_); intro A3 c3 w3 o3 g3 a3)
  simp only [List.nil_append, Nat.zero_add] at o3
  obtain ⟨g, x, rfl, hg1, hg2, hx, hxl, hc, hf⟩ := o3.get (k := k) (by omega)
  have b3 : Below w2.heap.size w2 w3 := below_own ((Below.refl _ _).alloc (Nat.le_refl _) _) g3 (by simp) (by simp)
  have hopen := openL_turned l hlt k x d hx hxl hd
  have hxd : bits .xor .u8 (x : Int) (d : Int) = ((x ^^^ d : Nat) : Int) := u8_xor_nat x d hxl hd
  have hz : x ^^^ d < 256 := Nat.xor_lt_two_pow (n := 8) hxl hd
  generalize x ^^^ d = z at *
  clear hx
  go_simp
  go_wp2_with fail
  have o4 := o3.stored k z hz
  have b4 : Below w2.heap.size w2 (w3.setCell ⟨g, k, none⟩ (.int .u8 (z : Int))) := b3.setCell hg1 _
  refine (open_any _ _ _ _ _ o4.ints (by omega)).mono ?_
  rw [hopen, HT.out]
  rintro e w5 ⟨A5, m5, c5, rfl, o5, b5'⟩
  have b5 := below_step b4 b5' b4.size
  go_wp2_with fail
  refine (open_any _ _ _ _ _ (o2.below b5).ints (by omega)).mono ?_
  rw [openL_seal]
  rintro e w6 ⟨A6, m6, c6, rfl, o6, b6'⟩
  have b6 := below_step b2 (below_step b5 b6' b5.size) b2.size
  have l6 := o6.len
  go_wp2_with fail
  refine (rows_any _ _ _ _ _ _ _ _ _ o6.ints (hr.below b6) (by omega) (by omega)).mono ?_
  rintro e w7 ⟨⟨q7, rfl⟩, rfl⟩
  go_wp2_with fail
  go_ret
  exact ⟨rfl, below_drewN b6 q7⟩
end Go.Proofs.Ytjdgkeajjmoglaa
