/- A decimal fraction's text: plain mathematics. No condition. -/
import Derived.Test.YticjhlbmdjijnaaGreatDoorHQBack
import Derived.Test.YticjhlbmdjijnaaGreatDoorHQMore
namespace Go.Proofs.YticjhlbmdjijnaaGreatDoor
set_option linter.unusedSimpArgs false
set_option linter.unusedVariables false

/-- The last i digits of r. -/
def tl : Nat → Nat → List Nat
  | 0, _ => []
  | i + 1, r => (48 + r / 10 ^ i % 10) :: tl i r
theorem tl_len (r : Nat) : ∀ i, (tl i r).length = i
  | 0 => rfl
  | i + 1 => by rw [tl, List.length_cons, tl_len r i]
theorem tl_digs (r : Nat) : ∀ i, Digs (tl i r)
  | 0 => fun _ h => (by cases h)
  | i + 1 => fun c hc => by
    rw [tl] at hc
    rcases List.mem_cons.1 hc with rfl | hc
    · have := Nat.mod_lt (r / 10 ^ i) (show 0 < 10 by omega); omega
    · exact tl_digs r i c hc
theorem dec_cons (x : Nat) (l : List Nat) : dec (x :: l) = (x - 48) * 10 ^ l.length + dec l := by
  have := dec_append [x] l
  rw [List.singleton_append] at this
  rw [this]
  have e : dec [x] = x - 48 := by unfold dec; simp
  rw [e]
theorem tl_dec (r : Nat) : ∀ i, dec (tl i r) = r % 10 ^ i
  | 0 => by rw [Nat.pow_zero, Nat.mod_one]; rfl
  | i + 1 => by
    rw [tl, dec_cons, tl_len, tl_dec r i, Nat.mod_pow_succ, Nat.add_sub_cancel_left, Nat.mul_comm]
    omega
theorem dec_zeros (l : List Nat) : ∀ j, dec (l ++ List.replicate j 48) = dec l * 10 ^ j
  | 0 => by simp
  | j + 1 => by
    rw [List.replicate_succ', ← List.append_assoc, dec_snoc, dec_zeros l j, Nat.pow_succ, Nat.sub_self, Nat.add_zero, Nat.mul_assoc]
def sg (n : Int) : List Nat := if n < 0 then [45] else []
/-- The text that the law makes. -/
def dtx (n : Int) (p j : Nat) : List Nat := (sg n ++ decTxt (n.natAbs / 10 ^ p)) ++ 46 :: (tl p (n.natAbs % 10 ^ p) ++ List.replicate j 48)
theorem not_digs {l : List Nat} (h : Digs l) {c : Nat} (hc : c < 48) : c ∉ l := fun hm => by have := h c hm; omega
theorem qdec {n : Int} (h1 : -2147483648 ≤ n) (h2 : n ≤ 2147483647) {p j : Nat} (hp : 1 ≤ p) (hp9 : p ≤ 9) (hj : j ≤ 2) : qpok (dtx n p j) = true ∧ qpv (dtx n p j) = Rat.divInt n ((10 ^ p : Nat) : Int) := by
  obtain ⟨W, hW⟩ : ∃ W, n.natAbs / 10 ^ p = W := ⟨_, rfl⟩
  obtain ⟨r, hr⟩ : ∃ r, n.natAbs % 10 ^ p = r := ⟨_, rfl⟩
  have hm : n.natAbs = W * 10 ^ p + r := by rw [← hW, ← hr, Nat.mul_comm]; exact (Nat.div_add_mod _ _).symm
  have hrl : r < 10 ^ p := by rw [← hr]; exact Nat.mod_lt _ (Nat.pow_pos (by omega))
  have hWl : W < 10 ^ (9 + 1) := by
    have h3 : W ≤ n.natAbs := by rw [← hW]; exact Nat.div_le_self _ _
    have h4 : (10 : Nat) ^ (9 + 1) = 10000000000 := by decide
    omega
  have hR := reads_dec W 9 hWl (by omega)
  obtain ⟨d1, d2, d3, _⟩ := dec_decTxt W
  have h46 : 46 ∉ sg n ++ decTxt W := fun hm => by
    rcases List.mem_append.1 hm with hm | hm
    · unfold sg at hm
      split at hm
      · simp at hm
      · cases hm
    · exact not_digs d2 (by omega) hm
  obtain ⟨c1, c2⟩ := cut_app (m := tl p r ++ List.replicate j 48) h46
  have hbod : bod (sg n ++ decTxt W) = decTxt W ∧ decide ((sg n ++ decTxt W)[0]? = some 45) = decide (n < 0) := by
    unfold sg bod
    by_cases hn : n < 0
    · rw [if_pos hn]
      simp [hn]
    · rw [if_neg hn, List.nil_append]
      have h0 : (decTxt W)[0]? ≠ some 45 := fun e => not_digs d2 (c := 45) (by omega) (List.mem_of_getElem? e)
      rw [if_neg h0, decide_eq_false h0, decide_eq_false hn]
      exact ⟨rfl, rfl⟩
  have hlen : (tl p r ++ List.replicate j 48).length = p + j := by rw [List.length_append, tl_len, List.length_replicate]
  have htx : dtx n p j = (sg n ++ decTxt W) ++ 46 :: (tl p r ++ List.replicate j 48) := by unfold dtx; rw [hW, hr]
  have hll : ¬ 1000 < (dtx n p j).length := by
    have h5 := decTxt_len 9 W hWl
    have h6 : (sg n).length ≤ 1 := by unfold sg; split <;> simp
    rw [htx, List.length_append, List.length_append, List.length_cons, hlen]
    omega
  obtain ⟨q1, q2⟩ := qp_point hll (by rw [htx]; simp)
  rw [htx, c1, c2] at q1 q2
  have hdig : Digs (tl p r ++ List.replicate j 48) := digs_app (tl_digs r p) (fun c hc => by have := List.eq_of_mem_replicate hc; omega)
  obtain ⟨y1, y2⟩ := qd_yes (h := sg n ++ decTxt W) (t := tl p r ++ List.replicate j 48) (by rw [hbod.1]; exact hR) (by omega) hdig
  rw [htx]
  refine ⟨q1.trans y1, q2.trans (y2.trans ?_)⟩
  rw [hbod.1, hbod.2, hlen, d1, dec_zeros, tl_dec, Nat.mod_eq_of_lt hrl]
  have e : W * 10 ^ (p + j) + r * 10 ^ j = n.natAbs * 10 ^ j := by rw [hm, Nat.pow_add, Nat.add_mul, Nat.mul_assoc]
  rw [e]
  have hz : zv (decide (n < 0)) (n.natAbs * 10 ^ j) = n * ((10 ^ j : Nat) : Int) := by
    unfold zv
    by_cases hn : n < 0
    · rw [decide_eq_true hn, if_pos rfl, Int.natCast_mul, ← Int.neg_mul]
      congr 1
      omega
    · rw [decide_eq_false hn, if_neg (by simp), Int.natCast_mul]
      congr 1
      omega
  have hpos : ((10 ^ j : Nat) : Int) ≠ 0 := by have := Nat.pow_pos (n := j) (show 0 < 10 by omega); omega
  rw [hz, Nat.pow_add, Int.natCast_mul]
  unfold qv
  rw [if_pos (by have a := Nat.pow_pos (n := j) (show 0 < 10 by omega); have b := Nat.pow_pos (n := p) (show 0 < 10 by omega); have c := Nat.mul_pos b a; omega), Rat.divInt_mul_right hpos]
end Go.Proofs.YticjhlbmdjijnaaGreatDoor
