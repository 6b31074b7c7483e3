/- The contract of heijunkaref05's Read. No condition but that fewer than 2^40 writes are pending. -/
import Derived.Test.YtkjmccicdjkccaaRDiskD
namespace Go.Proofs.Ytkjmccicdjkccaa
set_option linter.unusedSimpArgs false
set_option linter.unusedVariables false
open Go.RowKit

section
variable {w : World} {T : List Nat} {g : Nat} {s : DSt}
set_option maxRecDepth 100000 in
set_option maxHeartbeats 6400000 in
theorem rread_any (R : RefAt w T g s) (i : Int) (hp : s.pend.length < 1099511627776) :
    Calls Try.prog 30 #[.pointer (some ⟨g, 0, none⟩), .int .i64 i] w fun e w' => ∃ A n c, e = .returned (.tuple #[.slice A n c, .int .i64 (s.read i).2]) ∧ Ints w' .u8 256 A n c (s.read i).1 ∧ w = w' := by
  obtain ⟨BA, n, bc, GA, gc, AA, m, ac, NA, nc, st, xs, bs, ks, ys, h⟩ := R.ex
  have c0 := h.c0
  have c1_ := h.c1
  have c2 := h.c2
  have c3 := h.c3
  have c4 := h.c4
  have hm := h.m_eq
  have hn := h.n_eq
  have H := Lib.hid h
  clear R h
  obtain ⟨dn, hdn⟩ : ∃ d, s.down = d := ⟨_, rfl⟩
  rw [hdn] at c4
  cases dn with
  | true =>
    have HF := Lib.hid (DSt.read_down hdn i)
    clear hdn hm hn
    go_enter Try.func30, Try.ntmps30
    go_wp2_with fail
    go_ret2
    exact ⟨none, 0, 0, by rw [HF.out]; rfl, by rw [HF.out]; exact Ints.nil_ .., rfl⟩
  | false =>
  by_cases hi0 : i < 0
  · have HF := Lib.hid (DSt.read_arg hdn (i := i) (decide_eq_false (fun h => by omega)))
    clear hdn hm hn
    go_enter Try.func30, Try.ntmps30
    go_wp2_with fail
    go_ret2
    exact ⟨none, 0, 0, by rw [HF.out]; rfl, by rw [HF.out]; exact Ints.nil_ .., rfl⟩
  have hi0d : decide (i < 0) = false := decide_eq_false hi0
  by_cases hin : (n : Int) ≤ i
  · have HF := Lib.hid (DSt.read_arg hdn (i := i) (decide_eq_false (fun h => by omega)))
    have hind : decide ((n : Int) ≤ i) = true := decide_eq_true hin
    clear hdn hm hn
    go_enter Try.func30, Try.ntmps30
    go_wp2_with fail
    go_ret2
    exact ⟨none, 0, 0, by rw [HF.out]; rfl, by rw [HF.out]; exact Ints.nil_ .., rfl⟩
  have hind : decide ((n : Int) ≤ i) = false := decide_eq_false hin
  obtain ⟨ii, rfl⟩ : ∃ ii : Nat, i = (ii : Int) := ⟨i.toNat, by omega⟩
  have hii : ii < n := by omega
  have hlt : (ii : Int) < (n : Int) := by omega
  have hhas : s.has (ii : Int) = true := decide_eq_true ⟨by omega, by omega⟩
  have HH := Lib.hid (And.intro hdn hhas)
  have hwm : (m : Int) - 1 ≤ 9223372036854775807 := by omega
  obtain ⟨x, q, b, d, hx, xin, hq, rfl, rfl, cb, _, cd, _, hsu⟩ := H.out.sx hii
  have hD : s.sure.getD ii [] = if q then [] else x.l := by rw [List.getD_eq_getElem?_getD, hsu]; rfl
  have HX := Lib.hid (And.intro hD (And.intro xin.ints (H.out.full x (List.mem_of_getElem? hx))))
  have HM := Lib.hid hm
  have HW := Lib.hid (show wrap64 ((m : Int) - 1) = (m : Int) - 1 from IntWalk.wrap64_in _ (by omega))
  clear hdn hhas hm hn hsu hD xin hx hq hin hi0
  go_enter Try.func30, Try.ntmps30
  have hw := HW.out
  go_wp2_with fail
  clear hw
  go_loopw [6] (fun v wr => ∃ k : Nat, k ≤ m ∧ v = .int .i64 ((k : Int) - 1) ∧ wr = w ∧ Hid (s.cur ii = DSt.lastOf (s.pend.take k) ii (s.sure.getD ii []))) (fun v _ => (intOf v + 1).toNat)
  case atStart => exact ⟨m, Nat.le_refl _, rfl, rfl, (show s.cur ii = DSt.lastOf (s.pend.take m) ii (s.sure.getD ii []) by rw [List.take_of_length_le (by rw [HM.out]; exact Nat.le_refl _)]; rfl)⟩
  case round =>
    obtain ⟨k, hk, rfl, rfl, hL⟩ := hrel
    have HL := Lib.hid hL.out
    clear hL
    by_cases hk0 : k = 0
    · subst hk0
      have hcur : s.cur ii = if q then [] else x.l := HL.out.trans HX.out.1
      cases q with
      | true =>
        have HF := Lib.hid (DSt.read_torn HH.out.1 HH.out.2 (by rw [Int.toNat_natCast]; exact hcur))
        clear hcur
        go_wp2_with fail
        go_ret2
        exact ⟨none, 0, 0, by rw [HF.out]; rfl, by rw [HF.out]; exact Ints.nil_ .., rfl⟩
      | false =>
        have hcur : s.cur ii = x.l := hcur
        have HF := Lib.hid (DSt.read_ok HH.out.1 HH.out.2 (by rw [Int.toNat_natCast, hcur]; intro e; have := HX.out.2.2; rw [e] at this; cases this))
        have HC := Lib.hid hcur
        clear hcur
        go_wp2_with fail
        go_ret2
        exact ⟨x.A, x.n, x.c, by rw [HF.out]; rfl, by rw [HF.out, Int.toNat_natCast, HC.out]; exact HX.out.2.1, rfl⟩
    · obtain ⟨j, rfl⟩ : ∃ j, k = j + 1 := ⟨k - 1, by omega⟩
      obtain ⟨i2, y, a, e, hki, hyk, yin, rfl, rfl, ca, ce, hpk, hin2, hyl⟩ := H.out.py (k := j) (by omega)
      have hjm : (j : Int) < (m : Int) := by omega
      have hjv : (((j + 1 : Nat) : Int) - 1) = (j : Int) := by omega
      rw [hjv]
      have h0j : (0 : Int) ≤ (j : Int) := by omega
      have hst := lastOf_take (i := ii) (d := s.sure.getD ii []) hpk
      by_cases he : i2 = ii
      · have he2 : ((i2 : Int) == (ii : Int)) = true := by simp [he]
        rw [if_pos he] at hst
        have hcur : s.cur ii = y.l := HL.out.trans hst
        have HF := Lib.hid (DSt.read_ok HH.out.1 HH.out.2 (by rw [Int.toNat_natCast, hcur]; intro e; rw [e] at hyl; cases hyl))
        have HC := Lib.hid (And.intro hcur yin.ints)
        clear hcur he hst hki hyk yin hpk hyl
        go_wp2_with fail
        go_ret2
        exact ⟨y.A, y.n, y.c, by rw [HF.out]; rfl, by rw [HF.out, Int.toNat_natCast, HC.out.1]; exact HC.out.2, rfl⟩
      · have he2 : ((i2 : Int) == (ii : Int)) = false := by simp; omega
        rw [if_neg he] at hst
        have HC := Lib.hid (HL.out.trans hst)
        clear he hst hki hyk yin hpk hyl hjv
        go_wp2_with fail
        go_roundw
        case rel => exact ⟨j, by omega, rfl, trivial, HC.out⟩
        case measure => simp [intOf]
end
end Go.Proofs.Ytkjmccicdjkccaa
