/- Texts of several parts in one: RW9, ZW2. Each says what it proves; no condition but those named there. -/
import Derived.Test.YticjhlbmdjijnaaDoorGO
import Derived.Test.YticjhlbmdjijnaaDoorG8
/- The contracts of heijunkaref02: Div; Add, Sub, Mul once more, of as many limbs as it takes. No condition but the reach of a slice. -/
namespace Go.Proofs.YticjhlbmdjijnaaDoor
open Go.RowKit

theorem ZIs.lt {w : World} {b : Bool} {A : Option Addr} {n c : Nat} {z : Int} {k : Nat} {p : Bool} (h : ZIs w b A n c z k p) : z.natAbs < 4294967296 ^ k := by
  obtain ⟨l, hl, hv, _⟩ := h.lim
  rw [← hv]
  have h1 := Num.val_lt 4294967296 l hl.lt
  rw [hl.len] at h1
  exact Nat.lt_of_lt_of_le h1 (Nat.pow_le_pow_right (by decide) h.few)
theorem ZIs.tight {w : World} {b : Bool} {A : Option Addr} {n c : Nat} {z : Int} {k K : Nat} (h : ZIs w b A n c z k true) (hz : z.natAbs < 4294967296 ^ K) : ZIs w b A n c z K true :=
  ⟨h.ex, by rw [← h.len]; exact Num.dig_len_le (by decide) K _ hz⟩
theorem ZIs.resign {w : World} {b : Bool} {A : Option Addr} {n c : Nat} {z : Int} {k : Nat} {p : Bool} (h : ZIs w b A n c z k p) (b' : Bool) : ZIs w b' A n c (zv b' z.natAbs) k false := by
  obtain ⟨l, hl, hv, _⟩ := h.lim
  exact ⟨⟨l, hl, by rw [hv], fun h => by cases h⟩, h.few⟩
theorem pow_add_lt {x y : Int} {i j K : Nat} (hx : x.natAbs < 4294967296 ^ i) (hy : y.natAbs < 4294967296 ^ j) (hK : max i j + 1 ≤ K) : (x + y).natAbs < 4294967296 ^ K ∧ (x - y).natAbs < 4294967296 ^ K := by
  have h1 : 4294967296 ^ i ≤ 4294967296 ^ max i j := Nat.pow_le_pow_right (by decide) (Nat.le_max_left ..)
  have h2 : 4294967296 ^ j ≤ 4294967296 ^ max i j := Nat.pow_le_pow_right (by decide) (Nat.le_max_right ..)
  have h3 : 4294967296 ^ (max i j + 1) ≤ 4294967296 ^ K := Nat.pow_le_pow_right (by decide) hK
  rw [Nat.pow_succ] at h3
  omega
theorem pow_mul_lt {x y : Int} {i j K : Nat} (hx : x.natAbs < 4294967296 ^ i) (hy : y.natAbs < 4294967296 ^ j) (hK : i + j ≤ K) : (x * y).natAbs < 4294967296 ^ K := by
  have h3 : 4294967296 ^ (i + j) ≤ 4294967296 ^ K := Nat.pow_le_pow_right (by decide) hK
  rw [Nat.pow_add] at h3
  rw [Int.natAbs_mul]
  exact Nat.lt_of_lt_of_le (Nat.mul_lt_mul'' hx hy) h3
theorem rplain_t {w : World} {a : Bool} {A : Option Addr} {n c : Nat} {x : Int} {i : Nat} {p : Bool} {K : Nat} (ha : ZIs w a A n c x i p) (hi : i ≤ 268435456) (hK : i ≤ K) : Calls Tryd.prog 15 #[.agg #[.bool a, .slice A n c]] w fun e w' => ∃ b3 A3 n3 c3, e = .returned (.agg #[.bool b3, .slice A3 n3 c3]) ∧ ZIs w' b3 A3 n3 c3 (x) K true ∧ Below w.heap.size w w' :=
  (rzplain ha hi (Nat.le_refl _)).mono fun e w' ⟨b3, A3, n3, c3, h1, h2, h3⟩ => ⟨b3, A3, n3, c3, h1, h2.tight (Nat.lt_of_lt_of_le ha.lt (Nat.pow_le_pow_right (by decide) hK)), h3⟩
end Go.Proofs.YticjhlbmdjijnaaDoor

/- The contracts of package whole: Text, Bytes, Parse, Read, said of whole numbers. No condition but the reach of a slice. -/
namespace Go.Proofs.YticjhlbmdjijnaaDoor
open Go.RowKit

section
variable {w : World} {a : Bool} {A : Option Addr} {n c : Nat} {x : Int} {i : Nat} {p : Bool}
theorem ztext (ha : ZIs w a A n c x i p) (hi : i ≤ 1048576) : Calls Tryd.prog 10 #[.agg #[.bool a, .slice A n c]] w fun e w' => e = .returned (.string (str (ztx x))) ∧ Below w.heap.size w w' := by
  obtain ⟨l, hl, hv, hx⟩ := ha.lim
  have := ha.few
  have h := wtext_any a A n c l w hl (by omega)
  rw [hx] at h
  exact h
end
theorem zparse (l : List Nat) (hl : ∀ x ∈ l, x < 256) (w : World) (hlen : l.length ≤ 9223372036854775807) :
    Calls Tryd.prog 17 #[.string (str l)] w fun e w' => ∃ b3 A3 n3, e = .returned (.tuple #[.agg #[.bool b3, .slice A3 n3 n3], .bool (zok l)]) ∧ ZIs w' b3 A3 n3 n3 (zpv l) 80002 true ∧ Below w.heap.size w w' := by
  by_cases h : ZReads l
  · rw [zok_yes h, zpv_yes h]
    refine (wparse_ok l hl w h).mono ?_
    rintro e w' ⟨A, m, rfl, hm, ho, hb⟩
    exact ⟨_, _, _, rfl, ZIs.of_own ho rfl hm, hb⟩
  · rw [zok_no h, zpv_no h]
    refine (wparse_bad l hl w hlen h).mono ?_
    rintro e w' ⟨rfl, hb⟩
    exact ⟨_, _, _, rfl, ZIs.nil_ .., hb⟩
theorem zsame_true {w : World} {a b : Bool} {A B : Option Addr} {n c m d : Nat} {x y : Int} {i j : Nat} (ha : ZIs w a A n c x i true) (hb : ZIs w b B m d y j true) (hi : i ≤ 1073741824) (hj : j ≤ 1073741824) (he : x = y) :
    Calls Tryd.prog 12 #[.agg #[.bool a, .slice A n c], .agg #[.bool b, .slice B m d]] w fun e w' => e = .returned (.bool true) ∧ Below w.heap.size w w' :=
  (zsame ha hb hi hj).mono fun e w' ⟨h1, h2⟩ => ⟨by rw [h1, decide_eq_true he], h2⟩
theorem zcmp_is {w : World} {a b : Bool} {A B : Option Addr} {n c m d : Nat} {x y : Int} {i j : Nat} {p q : Bool} (ha : ZIs w a A n c x i p) (hb : ZIs w b B m d y j q) (hi : i ≤ 268435456) (hj : j ≤ 268435456) (z : Int) (hz : zcmp x y = z) :
    Calls Tryd.prog 19 #[.agg #[.bool a, .slice A n c], .agg #[.bool b, .slice B m d]] w fun e w' => e = .returned (.int .i64 z) ∧ Below w.heap.size w w' := by
  rw [← hz]; exact zcmp_ ha hb hi hj
theorem rzcmp_is {w : World} {a b : Bool} {A B : Option Addr} {n c m d : Nat} {x y : Int} {i j : Nat} {p q : Bool} (ha : ZIs w a A n c x i p) (hb : ZIs w b B m d y j q) (hi : i ≤ 1048576) (hj : j ≤ 1048576) (z : Int) (hz : zcmp x y = z) :
    Calls Tryd.prog 22 #[.agg #[.bool a, .slice A n c], .agg #[.bool b, .slice B m d]] w fun e w' => e = .returned (.int .i64 z) ∧ Below w.heap.size w w' := by
  rw [← hz]; exact rzcmp ha hb hi hj
end Go.Proofs.YticjhlbmdjijnaaDoor
