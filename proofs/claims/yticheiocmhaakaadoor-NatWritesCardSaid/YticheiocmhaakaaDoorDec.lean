/- Decimal digits, strings: plain mathematics. No condition. -/
import Derived.Test.YticheiocmhaakaaDoorRefMath
import Derived.Lib.TrimByte
import Derived.Lib.SlTrimSet
namespace Go.Proofs.YticheiocmhaakaaDoor

/-- The decimal text of a number, its bytes. -/
def decTxt (v : Nat) : List Nat := if v = 0 then [48] else (Num.dig 10 v).reverse.map (48 + ·)
/-- Bytes as a string. -/
def str (l : List Nat) : ByteArray := ⟨(l.map UInt8.ofNat).toArray⟩
theorem str_list (l : List Nat) : (str l).data.toList = l.map UInt8.ofNat := by simp [str]
theorem str_append (l m : List Nat) : str l ++ str m = str (l ++ m) := by
  apply ByteArray.ext
  simp [str]
namespace Num
theorem strip_rev {b : Nat} (hb : 2 ≤ b) (R : List Nat) (h : ∀ x ∈ R, x < b) : R.dropWhile (· == 0) = (dig b (val b R.reverse)).reverse := by
  induction R with
  | nil => simp [val, dig_zero]
  | cons x R ih =>
    have ih' := ih fun y hy => h y (List.mem_cons_of_mem _ hy)
    rw [List.reverse_cons]
    by_cases hx : x = 0
    · subst hx
      rw [List.dropWhile_cons_of_pos (by simp), ih', val_snoc, Nat.mul_zero, Nat.add_zero]
    · rw [List.dropWhile_cons_of_neg (by simpa using hx), dig_val hb (R.reverse ++ [x])]
      · simp
      · intro y hy
        have : y ∈ x :: R := by simpa [or_comm] using hy
        exact h y this
      · intro y hy
        rw [List.length_append, List.length_singleton, Nat.add_sub_cancel, List.getElem?_append_right (by omega)] at hy
        simp at hy
        omega
theorem strip {b : Nat} (hb : 2 ≤ b) (D : List Nat) (h : ∀ x ∈ D, x < b) : D.reverse.dropWhile (· == 0) = (dig b (val b D)).reverse := by
  have := strip_rev hb D.reverse (by simpa using h)
  rwa [List.reverse_reverse] at this
end Num
theorem dropWhile_congr {α : Type} (p q : α → Bool) (l : List α) (h : ∀ x ∈ l, p x = q x) : l.dropWhile p = l.dropWhile q := by
  induction l with
  | nil => rfl
  | cons x l ih =>
    rw [List.dropWhile_cons, List.dropWhile_cons, h x List.mem_cons_self, ih fun y hy => h y (List.mem_cons_of_mem _ hy)]
theorem byte_zero (x : Nat) (h : x < 10) : (UInt8.ofNat (48 + x) == 48) = (x == 0) := by
  obtain rfl | rfl | rfl | rfl | rfl | rfl | rfl | rfl | rfl | rfl : x = 0 ∨ x = 1 ∨ x = 2 ∨ x = 3 ∨ x = 4 ∨ x = 5 ∨ x = 6 ∨ x = 7 ∨ x = 8 ∨ x = 9 := by omega
  all_goals decide
/-- What TrimLeft leaves of digits with zeros ahead. -/
theorem trim_dec (D : List Nat) (v : Nat) (h : ∀ x ∈ D, x < 10) (hv : Num.val 10 D = v) (h0 : 0 < v) : (⟨(Lib.trimLeftB (str (D.map (48 + ·)).reverse).data.toList 48).toArray⟩ : ByteArray) = str (decTxt v) := by
  have e : Lib.trimLeftB (str (D.map (48 + ·)).reverse).data.toList 48 = ((Num.dig 10 v).reverse.map (48 + ·)).map UInt8.ofNat := by
    rw [str_list, ← List.map_reverse]
    unfold Lib.trimLeftB
    rw [List.map_map, List.dropWhile_map, dropWhile_congr ((fun x => x == 48) ∘ UInt8.ofNat ∘ fun x => 48 + x) (· == 0) D.reverse (fun x hx => byte_zero x (h x (by simpa using hx))), Num.strip (by decide) D h, hv, List.map_map]
  rw [e]
  unfold str decTxt
  rw [if_neg (by omega)]
theorem decTxt_zero : decTxt 0 = [48] := rfl
theorem decTxt_pos {v : Nat} (h : 0 < v) : decTxt v = (Num.dig 10 v).reverse.map (48 + ·) := by unfold decTxt; rw [if_neg (by omega)]
end Go.Proofs.YticheiocmhaakaaDoor
