/- What is written is read: a fraction's text and bytes. No condition. No condition but the reach of a slice. -/
import Derived.Test.YticjhlbmdjijnaaGreatDoorHQMore
import Derived.Test.YticjhlbmdjijnaaGreatDoorHZMath
namespace Go.Proofs.YticjhlbmdjijnaaGreatDoor
set_option linter.unusedSimpArgs false
set_option linter.unusedVariables false
open Go.RowKit

theorem qread_enc (r : Rat) (R : List Nat) (h1 : (lmb r.num.natAbs).length ≤ 4096) (h2 : (lmb ((r.den : Nat) : Int).natAbs).length ≤ 4096) : qrok (qenc r ++ R) = true ∧ qrv (qenc r ++ R) = r ∧ qrl (qenc r ++ R) = R := by
  have e : qenc r ++ R = zenc r.num ++ (zenc (r.den : Int) ++ R) := by unfold qenc; exact List.append_assoc ..
  obtain ⟨a1, a2, a3⟩ := zenc_all r.num h1 (zenc (r.den : Int) ++ R)
  obtain ⟨b1, b2, b3⟩ := zenc_all (r.den : Int) h2 R
  rw [e]
  generalize zenc r.num ++ (zenc (r.den : Int) ++ R) = L at a1 a2 a3
  have hv : qv r.num (r.den : Int) = r := qv_self r
  have hok : qrok L = true := by
    unfold qrok
    rw [a1, a3, b1, a2, b2, hv, decide_eq_true (rfl : r.num = r.num), decide_eq_true (rfl : (r.den : Int) = (r.den : Int)), decide_eq_true (by have := r.den_pos; omega : (0 : Int) < (r.den : Int))]
    rfl
  refine ⟨hok, ?_, ?_⟩
  · rw [qrv_yes hok, a2, a3, b2, hv]
  · rw [qrl_yes hok, a3, b3]
theorem ztx_chars (z : Int) : ∀ x ∈ ztx z, x = 45 ∨ (48 ≤ x ∧ x ≤ 57) := by
  intro x hx
  have d2 := (dec_decTxt z.natAbs).2.1
  by_cases hz : z < 0
  · rw [ztx_neg hz] at hx
    rcases List.mem_cons.1 hx with rfl | hx
    · exact Or.inl rfl
    · exact Or.inr (d2 x hx)
  · rw [ztx_pos hz] at hx; exact Or.inr (d2 x hx)
theorem ztx_not (z : Int) {c : Nat} (hc : c = 46 ∨ c = 47) : c ∉ ztx z := fun h => by
  rcases ztx_chars z c h with e | e <;> omega
theorem cut_mid {c : Nat} {a b : List Nat} (h : c ∉ a) : cutH c (a ++ c :: b) = a ∧ cutT c (a ++ c :: b) = b := by
  induction a with
  | nil => rw [List.nil_append, cutH_cons, cutT_cons, if_pos rfl, if_pos rfl]; exact ⟨rfl, rfl⟩
  | cons x a ih =>
    have hx : ¬ x = c := fun e => h (e ▸ List.mem_cons_self)
    obtain ⟨i1, i2⟩ := ih (fun e => h (List.mem_cons_of_mem _ e))
    rw [List.cons_append, cutH_cons, cutT_cons, if_neg hx, if_neg hx, i1, i2]; exact ⟨rfl, rfl⟩
theorem qtx_back (r : Rat) (k : Nat) (h1 : r.num.natAbs < 10 ^ (k + 1)) (h2 : r.den < 10 ^ (k + 1)) (hk : k ≤ 400) : qpok (qtx r) = true ∧ qpv (qtx r) = r ∧ (∀ x ∈ qtx r, x < 256) ∧ (qtx r).length ≤ 2 * k + 5 := by
  obtain ⟨a1, a2, a3, a4⟩ := ztx_all r.num k h1 (by omega)
  have h2' : ((r.den : Nat) : Int).natAbs < 10 ^ (k + 1) := by rw [Int.natAbs_natCast]; exact h2
  have hd := r.den_pos
  unfold qtx
  by_cases e : r.den = 1
  · rw [if_pos e]
    refine ⟨?_, ?_, a3, by omega⟩
    · rw [(qp_whole (by omega) (ztx_not _ (Or.inl rfl)) (ztx_not _ (Or.inr rfl))).1]; exact a1
    · rw [(qp_whole (by omega) (ztx_not _ (Or.inl rfl)) (ztx_not _ (Or.inr rfl))).2, a2]
      have := qv_self r
      rw [e] at this
      exact this
  · rw [if_neg e]
    have ed : ztx ((r.den : Nat) : Int) = decTxt r.den := by rw [ztx_pos (by omega), Int.natAbs_natCast]
    obtain ⟨b1, b2, b3, b4⟩ := ztx_all ((r.den : Nat) : Int) k h2' (by omega)
    have hl : (ztx r.num ++ 47 :: ztx ((r.den : Nat) : Int)).length ≤ 2 * k + 5 := by rw [List.length_append, List.length_cons]; omega
    have n46 : 46 ∉ ztx r.num ++ 47 :: ztx ((r.den : Nat) : Int) := by
      intro h
      rcases List.mem_append.1 h with h | h
      · exact ztx_not _ (Or.inl rfl) h
      · rcases List.mem_cons.1 h with h | h
        · omega
        · exact ztx_not _ (Or.inl rfl) h
    have m47 : 47 ∈ ztx r.num ++ 47 :: ztx ((r.den : Nat) : Int) := List.mem_append.2 (Or.inr List.mem_cons_self)
    obtain ⟨c1, c2⟩ := cut_mid (c := 47) (a := ztx r.num) (b := ztx ((r.den : Nat) : Int)) (ztx_not _ (Or.inr rfl))
    obtain ⟨q1, q2⟩ := qp_slash (by omega) n46 m47
    rw [c1, c2, ed] at q1 q2
    have hr : Reads (decTxt r.den) := reads_dec r.den k h2 (by omega)
    have hdd := (dec_decTxt r.den).1
    have hok : qfok (ztx r.num) (decTxt r.den) = true := by
      unfold qfok
      rw [a1, decide_eq_true hr, hdd, decide_eq_true hd]; rfl
    rw [← ed] at q1 q2 hok
    refine ⟨q1.trans hok, ?_, ?_, hl⟩
    · rw [q2, if_pos hok, a2, ed, hdd]
      exact qv_self r
    · intro x hx
      rcases List.mem_append.1 hx with h | h
      · exact a3 x h
      · rcases List.mem_cons.1 h with rfl | h
        · decide
        · exact b3 x h
end Go.Proofs.YticjhlbmdjijnaaGreatDoor
