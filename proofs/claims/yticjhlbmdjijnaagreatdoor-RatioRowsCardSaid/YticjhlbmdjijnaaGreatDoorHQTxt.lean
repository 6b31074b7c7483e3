/- A fraction's text and bytes: plain. No condition. -/
import Derived.Test.YticjhlbmdjijnaaGreatDoorHQ
namespace Go.Proofs.YticjhlbmdjijnaaGreatDoor
set_option linter.unusedSimpArgs false
set_option linter.unusedVariables false

def qtx (q : Rat) : List Nat := if q.den = 1 then ztx q.num else ztx q.num ++ 47 :: ztx (q.den : Int)
def qenc (q : Rat) : List Nat := zenc q.num ++ zenc (q.den : Int)
/-- What bytes begin with, read as a fraction. -/
def qrok (l : List Nat) : Bool := zrok l && zrok (zrl l) && decide (0 < zrv (zrl l)) && decide ((qv (zrv l) (zrv (zrl l))).num = zrv l) && decide (((qv (zrv l) (zrv (zrl l))).den : Int) = zrv (zrl l))
def qrv (l : List Nat) : Rat := if qrok l then qv (zrv l) (zrv (zrl l)) else 0
def qrl (l : List Nat) : List Nat := if qrok l then zrl (zrl l) else []
theorem qrv_yes {l : List Nat} (h : qrok l = true) : qrv l = qv (zrv l) (zrv (zrl l)) := by unfold qrv; rw [h]; rfl
theorem qrl_yes {l : List Nat} (h : qrok l = true) : qrl l = zrl (zrl l) := by unfold qrl; rw [h]; rfl
theorem qrv_no {l : List Nat} (h : qrok l = false) : qrv l = 0 := by unfold qrv; rw [h]; rfl
theorem qrl_no {l : List Nat} (h : qrok l = false) : qrl l = [] := by unfold qrl; rw [h]; rfl
theorem qrok_of {l : List Nat} {b1 b2 : Bool} {x y : Int} (h1 : zrok l = b1) (h2 : zrok (zrl l) = b2) (h3 : zrv l = x) (h4 : zrv (zrl l) = y) :
    qrok l = (b1 && b2 && decide (0 < y) && decide ((qv x y).num = x) && decide (((qv x y).den : Int) = y)) := by unfold qrok; rw [h1, h2, h3, h4]
theorem ztx_most {z : Int} {k : Nat} (h : z.natAbs < 4294967296 ^ k) : (ztx z).length ≤ 10 * k + 2 := by
  have := decTxt_most z.natAbs k h
  unfold ztx
  split
  · rw [List.length_cons]; omega
  · omega
theorem enc_most (l : List Nat) : (enc l).length ≤ 4 * l.length + 2 := by
  unfold enc
  split
  · simp
  · simp only [List.length_cons, flat_len]; omega
theorem zenc_most {z : Int} {k : Nat} (h : z.natAbs < 4294967296 ^ k) : (zenc z).length ≤ 4 * k + 3 := by
  have hl : (lmb z.natAbs).length ≤ k := Num.dig_len_le (by decide) k _ h
  have := enc_most (lmb z.natAbs)
  unfold zenc
  split
  · simp
  · rw [List.length_cons]; omega
end Go.Proofs.YticjhlbmdjijnaaGreatDoor
