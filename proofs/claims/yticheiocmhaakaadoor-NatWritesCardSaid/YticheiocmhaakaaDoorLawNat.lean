/- Further contracts that the laws of layer 1 use. No condition. -/
import Derived.Test.YticheiocmhaakaaDoorNatN
import Derived.Test.YticheiocmhaakaaDoorRefE
namespace Go.Proofs.YticheiocmhaakaaDoor
open Go.RowKit

theorem cmp_is (A A' : Option Addr) (n c n' c' : Nat) (l l' : List Nat) (w : World) (hr : Lim w A n c l) (hr' : Lim w A' n' c' l') (hn : n ≤ 1099511627776) (hn' : n' ≤ 1099511627776) (z : Int) (hz : Num.cmp (vl l) (vl l') = z) :
    Calls Tryd.prog 18 #[.slice A n c, .slice A' n' c'] w fun e w' => e = .returned (.int .i64 z) ∧ Below w.heap.size w w' := by
  subst hz
  exact cmp_any A A' n c n' c' l l' w hr hr' hn hn'
theorem cmp_ge (A A' : Option Addr) (n c n' c' : Nat) (l l' : List Nat) (w : World) (hr : Lim w A n c l) (hr' : Lim w A' n' c' l') (hn : n ≤ 1099511627776) (hn' : n' ≤ 1099511627776) (hz : vl l' ≤ vl l) :
    Calls Tryd.prog 18 #[.slice A n c, .slice A' n' c'] w fun e w' => ∃ z : Int, 0 ≤ z ∧ e = .returned (.int .i64 z) ∧ Below w.heap.size w w' := by
  refine (cmp_any A A' n c n' c' l l' w hr hr' hn hn').mono fun e w' ⟨h1, h2⟩ => ⟨_, ?_, h1, h2⟩
  rcases Nat.lt_or_eq_of_le hz with h | h
  · rw [Num.cmp_gt h]; decide
  · rw [h, Num.cmp_eq]; decide
theorem same_not (A B : Option Addr) (n c m d : Nat) (l k : List Nat) (w : World) (ha : Lim w A n c l) (hb : Lim w B m d k) (hn : n ≤ 140737488355328) (hm : m ≤ 140737488355328) (he : l ≠ k) :
    Calls Tryd.prog 15 #[.slice A n c, .slice B m d] w fun e w' => e = .returned (.bool false) ∧ Below w.heap.size w w' :=
  (same_below A B n c m d l k w ha hb hn hm).mono fun e w' ⟨h1, h2⟩ => ⟨by rw [h1, decide_eq_false he], h2⟩

theorem lmb_len_pos {w : World} {base : Nat} {A : Option Addr} {m c v : Nat} (h : OwnL w base A m c (lmb v)) (hv : 0 < v) : 0 < m := by
  rcases Nat.eq_zero_or_pos m with h0 | h0
  · have h1 := h.len
    rw [h0] at h1
    have := (Num.dig_eq_nil (b := 4294967296) (by decide) v).1 (List.eq_nil_of_length_eq_zero h1)
    omega
  · exact h0
theorem lmb_len_zero {w : World} {base : Nat} {A : Option Addr} {m c v : Nat} (h : OwnL w base A m c (lmb v)) (hv : v = 0) : m = 0 := by
  have h1 := h.len
  rw [hv, lmb_zero] at h1
  exact h1.symm
end Go.Proofs.YticheiocmhaakaaDoor
