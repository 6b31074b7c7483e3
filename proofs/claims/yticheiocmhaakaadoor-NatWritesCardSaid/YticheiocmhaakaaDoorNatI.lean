/- The contract of nat.guess: a limb of a quotient from the highest limbs, at most one too great. No condition but the numbers' forms. -/
import Derived.Test.YticheiocmhaakaaDoorNatH
import Derived.IntWalk
namespace Go.Proofs.YticheiocmhaakaaDoor
open Go.RowKit

namespace Num
/-- A dividend and a divisor seen from their highest limbs: P is the power below, high two limbs in one. -/
structure Tops (P U V high low top next : Nat) : Prop where
  p : 0 < P
  v : ∃ vl, vl < P ∧ V = vl + P * (next + 4294967296 * top)
  u : ∃ ul, ul < P ∧ U = ul + P * (low + 4294967296 * high)
  low : low < 4294967296
  next : next < 4294967296
  half : 2147483648 ≤ top
  topl : top < 4294967296
  fits : U < 4294967296 * V

section
variable {P U V high low top next : Nat}
theorem Tops.vpos (h : Tops P U V high low top next) : 0 < V := by
  have := h.fits
  rcases Nat.eq_zero_or_pos V with hv | hv
  · rw [hv] at this; omega
  · exact hv
theorem Tops.vge (h : Tops P U V high low top next) : P * (4294967296 * top) ≤ V := by
  obtain ⟨a, ha, e⟩ := h.v
  rw [e, Nat.mul_add]
  omega
theorem Tops.vlt (h : Tops P U V high low top next) : V < P * (4294967296 * (top + 1)) := by
  obtain ⟨a, ha, e⟩ := h.v
  have h1 : next + 1 + 4294967296 * top ≤ 4294967296 * (top + 1) := by have := h.next; omega
  have h2 := Nat.mul_le_mul_left P h1
  rw [show next + 1 + 4294967296 * top = (next + 4294967296 * top) + 1 by omega, Nat.mul_add P _ 1] at h2
  omega
theorem Tops.uge (h : Tops P U V high low top next) : P * (4294967296 * high) ≤ U := by
  obtain ⟨a, ha, e⟩ := h.u
  rw [e, Nat.mul_add]
  omega
theorem Tops.ult (h : Tops P U V high low top next) : U < P * (low + 4294967296 * high + 1) := by
  obtain ⟨a, ha, e⟩ := h.u
  rw [Nat.mul_add P _ 1, e]
  omega
theorem Tops.qlt (h : Tops P U V high low top next) : U / V < 4294967296 := (Nat.div_lt_iff_lt_mul h.vpos).2 h.fits
theorem Tops.start (h : Tops P U V high low top next) : U / V ≤ high / top ∧ high / top ≤ 4294967297 := by
  have ht : 0 < top := by have := h.half; omega
  constructor
  · rw [Nat.le_div_iff_mul_le ht]
    have h1 : U / V * V ≤ U := Nat.div_mul_le_self U V
    have h2 : U / V * (P * (4294967296 * top)) ≤ U := Nat.le_trans (Nat.mul_le_mul_left _ h.vge) h1
    have h3 : P * (4294967296 * (U / V * top)) < P * (4294967296 * (high + 1)) := by
      have e : U / V * (P * (4294967296 * top)) = P * (4294967296 * (U / V * top)) := by
        rw [Nat.mul_left_comm, Nat.mul_left_comm (U / V) 4294967296]
      rw [← e]
      refine Nat.lt_of_le_of_lt h2 (Nat.lt_of_lt_of_le h.ult (Nat.mul_le_mul_left _ ?_))
      have := h.low; omega
    have h4 := Nat.lt_of_mul_lt_mul_left h3
    omega
  · have h1 : P * (4294967296 * high) < P * (4294967296 * (4294967296 * (top + 1))) := by
      refine Nat.lt_of_le_of_lt h.uge (Nat.lt_trans h.fits ?_)
      have := Nat.mul_lt_mul_of_pos_left h.vlt (show 0 < 4294967296 by omega)
      rw [Nat.mul_left_comm] at this
      exact this
    have h2 := Nat.lt_of_mul_lt_mul_left h1
    have h3 : high < 4294967296 * (top + 1) := by omega
    have h5 : high / top < 4294967298 := by
      rw [Nat.div_lt_iff_lt_mul ht]
      have := h.half
      omega
    omega
theorem Tops.more (h : Tops P U V high low top next) {q r : Nat} (hq : q * top + r = high) (hc : 4294967296 ≤ q ∨ r * 4294967296 + low < q * next) : U / V < q := by
  rcases hc with hc | hc
  · exact Nat.lt_of_lt_of_le h.qlt hc
  · rw [Nat.div_lt_iff_lt_mul h.vpos]
    obtain ⟨a, ha, e⟩ := h.v
    refine Nat.lt_of_lt_of_le h.ult ?_
    have h1 : low + 4294967296 * high + 1 ≤ q * (next + 4294967296 * top) := by
      rw [Nat.mul_add, Nat.mul_left_comm q, ← hq]
      omega
    refine Nat.le_trans (Nat.mul_le_mul_left P h1) ?_
    rw [e, Nat.mul_left_comm P q]
    exact Nat.mul_le_mul_left q (Nat.le_add_left _ _)
theorem Tops.done (h : Tops P U V high low top next) {q r : Nat} (hq : q * top + r = high) (hq1 : q < 4294967296) (hc : q * next ≤ r * 4294967296 + low) : q ≤ U / V + 1 := by
  obtain ⟨a, ha, e⟩ := h.v
  obtain ⟨c, hc2, e2⟩ := h.u
  have h1 : q * (next + 4294967296 * top) ≤ low + 4294967296 * high := by
    rw [Nat.mul_add, Nat.mul_left_comm q, ← hq]
    omega
  have h2 : P * (q * (next + 4294967296 * top)) ≤ U := by
    have := Nat.mul_le_mul_left P h1
    omega
  have h3 : q * a < V := by
    have hv := h.vge
    have h4 : q * a ≤ q * P := Nat.mul_le_mul_left q (Nat.le_of_lt ha)
    have h5 : q * P < P * (4294967296 * top) := by
      rw [Nat.mul_comm q P]
      refine Nat.mul_lt_mul_of_pos_left ?_ h.p
      have := h.half; omega
    omega
  have h4 : q * V < U + V := by
    rw [show q * V = q * a + P * (q * (next + 4294967296 * top)) by rw [e, Nat.mul_add, Nat.mul_left_comm q P]]
    omega
  have h5 : q < U / V + 1 + 1 := by
    have h6 : q * V < (U / V + 1 + 1) * V := by
      have h7 : U < (U / V + 1) * V := by rw [Nat.mul_comm]; exact Nat.lt_mul_div_succ U h.vpos
      rw [Nat.add_mul (U / V + 1) 1 V]
      omega
    exact Nat.lt_of_mul_lt_mul_right h6
  omega
theorem Tops.brk (h : Tops P U V high low top next) {q r : Nat} (hq : q * top + r = high) (hq1 : q ≤ 4294967296) (hr : 4294967296 ≤ r) : q ≤ U / V := by
  rw [Nat.le_div_iff_mul_le h.vpos]
  refine Nat.le_trans (Nat.mul_le_mul_left q (Nat.le_of_lt h.vlt)) (Nat.le_trans ?_ h.uge)
  rw [Nat.mul_left_comm q P]
  refine Nat.mul_le_mul_left P ?_
  rw [Nat.mul_left_comm q]
  refine Nat.mul_le_mul_left _ ?_
  rw [Nat.mul_add, Nat.mul_one]
  omega
end
end Num

/-- A row of one limb more than the divisor, and the divisor, of two limbs at least, its highest bit set. -/
theorem tops_of (m v : List Nat) (n x0 x1 x2 t1 t2 : Nat) (hm : m.length = n + 1) (hv : v.length = n) (hn : 2 ≤ n) (hml : ∀ x ∈ m, x < 4294967296) (hvl : ∀ x ∈ v, x < 4294967296)
    (h0 : m[n]? = some x0) (h1 : m[n - 1]? = some x1) (h2 : m[n - 2]? = some x2) (k1 : v[n - 1]? = some t1) (k2 : v[n - 2]? = some t2) (hh : 2147483648 ≤ t1) (hf : vl m < 4294967296 * vl v) :
    Num.Tops (4294967296 ^ (n - 2)) (vl m) (vl v) (x0 * 4294967296 + x1) x2 t1 t2 where
  p := Nat.pow_pos (by omega)
  v := by
    refine ⟨vl (v.take (n - 2)), ?_, ?_⟩
    · have := Num.val_lt 4294967296 (v.take (n - 2)) (fun x hx => hvl x (List.mem_of_mem_take hx))
      rwa [List.length_take, Nat.min_eq_left (by omega)] at this
    · have e1 := vl_take_succ k2
      have e2 := vl_take_succ k1
      rw [show n - 2 + 1 = n - 1 by omega] at e1
      rw [show n - 1 + 1 = n by omega, List.take_of_length_le (by omega), e1, show n - 1 = n - 2 + 1 by omega, Nat.pow_succ] at e2
      rw [e2, Nat.mul_add, Nat.mul_assoc]
      omega
  u := by
    refine ⟨vl (m.take (n - 2)), ?_, ?_⟩
    · have := Num.val_lt 4294967296 (m.take (n - 2)) (fun x hx => hml x (List.mem_of_mem_take hx))
      rwa [List.length_take, Nat.min_eq_left (by omega)] at this
    · have e1 := vl_take_succ h2
      have e2 := vl_take_succ h1
      have e3 := vl_take_succ h0
      rw [show n - 2 + 1 = n - 1 by omega] at e1
      rw [show n - 1 + 1 = n by omega, e1, show n - 1 = n - 2 + 1 by omega, Nat.pow_succ] at e2
      rw [List.take_of_length_le (by omega), e2, show n = n - 2 + 1 + 1 by omega, Nat.pow_succ, Nat.pow_succ] at e3
      simp only [show n - 2 + 1 + 1 - 2 = n - 2 by omega] at e3
      rw [e3]
      simp only [Nat.mul_add, Nat.mul_assoc]
      rw [Nat.mul_comm x0 4294967296]
      omega
  low := hml _ (List.mem_of_getElem? h2)
  next := hvl _ (List.mem_of_getElem? k2)
  half := hh
  topl := hvl _ (List.mem_of_getElem? k1)
  fits := hf

set_option maxRecDepth 100000 in
set_option maxHeartbeats 1600000 in
theorem guess_any (A Av : Option Addr) (nu cu n cv : Nat) (h m t v : List Nat) (t1 : Nat) (w : World) (hr : Lim w A nu cu (h ++ (m ++ t))) (hv : Lim w Av n cv v)
    (hm : m.length = n + 1) (hn : 2 ≤ n) (hu : nu ≤ 1099511627776) (k1 : v[n - 1]? = some t1) (hh : 2147483648 ≤ t1) (hf : vl m < 4294967296 * vl v) :
    Calls Tryd.prog 61 #[.slice A nu cu, .slice Av n cv, .int .i64 (h.length : Nat)] w fun e w' => ∃ q, e = .returned (.int .u64 (q : Nat)) ∧ q < 4294967296 ∧ vl m / vl v ≤ q ∧ q ≤ vl m / vl v + 1 ∧ ∃ k, w' = w.drewN k := by
  have hvlen := hv.len
  have hlu := hr.len
  simp only [List.length_append] at hlu
  obtain ⟨j, hj⟩ : ∃ j, h.length = j := ⟨_, rfl⟩
  obtain ⟨b, off, x0, rfl, hb, hx0, hl0, hc0⟩ := hr.get (k := j + n) (by omega)
  obtain ⟨x1, hx1, hl1, hc1⟩ := hr.get' (k := j + (n - 1)) (by omega)
  obtain ⟨x2, hx2, hl2, hc2⟩ := hr.get' (k := j + (n - 2)) (by omega)
  obtain ⟨bv, ov, t1', rfl, hbv, ht1, htl1, hct1⟩ := hv.get (k := n - 1) (by omega)
  obtain ⟨t2, ht2, htl2, hct2⟩ := hv.get' (k := n - 2) (by omega)
  rw [ht1] at k1
  obtain rfl : t1' = t1 := Option.some.inj k1
  rw [← hj, mid_get h m t _ (by omega)] at hx0 hx1 hx2
  have hT := tops_of m v n x0 x1 x2 t1' t2 hm hvlen hn (fun x hx => hr.lt x (by simp [hx])) hv.lt hx0 hx1 hx2 ht1 ht2 hh hf
  generalize vl m = U at *
  generalize vl v = V at *
  have H0 := hT.start
  obtain ⟨H, hH⟩ : ∃ H, x0 * 4294967296 + x1 = H := ⟨_, rfl⟩
  rw [hH] at hT H0
  have hHl : H < 18446744073709551616 := by omega
  have hor := u64_or_nat (x0 * 4294967296) x1 (by omega) (by omega)
  rw [nat_join 32 _ _ (by omega) (by omega), hH] at hor
  replace hor : bits .or .u64 ((x0 : Int) * 4294967296) (x1 : Int) = (H : Int) := hor
  obtain ⟨q0, hq0⟩ : ∃ q0, H / t1' = q0 := ⟨_, rfl⟩
  obtain ⟨r0, hr0⟩ : ∃ r0, H % t1' = r0 := ⟨_, rfl⟩
  have hr0l : r0 < t1' := by rw [← hr0]; exact Nat.mod_lt _ (by omega)
  have hdm : q0 * t1' + r0 = H := by rw [← hq0, ← hr0, Nat.mul_comm]; exact Nat.div_add_mod H t1'
  have hq1 : (H : Int).tdiv (t1' : Int) = (q0 : Int) := by rw [Int.tdiv_eq_ediv_of_nonneg (by omega), ← Int.natCast_ediv, hq0]
  have hr1 : (H : Int).tmod (t1' : Int) = (r0 : Int) := by rw [Int.tmod_eq_emod_of_nonneg (by omega), ← Int.natCast_emod, hr0]
  rw [hq0] at H0
  obtain ⟨QT, hQT⟩ : ∃ QT, U / V = QT := ⟨_, rfl⟩
  rw [hQT] at H0 ⊢
  have HT : Hid (Num.Tops (4294967296 ^ (n - 2)) U V H x2 t1' t2) := hT
  have HM := Lib.hid hdm
  have HQ := Lib.hid hQT
  rw [hj]
  obtain ⟨a0, ha0⟩ : ∃ a0, j + n = a0 := ⟨_, rfl⟩
  obtain ⟨a1, ha1⟩ : ∃ a1, j + (n - 1) = a1 := ⟨_, rfl⟩
  obtain ⟨a2, ha2⟩ : ∃ a2, j + (n - 2) = a2 := ⟨_, rfl⟩
  obtain ⟨n1, hn1⟩ : ∃ n1, n - 1 = n1 := ⟨_, rfl⟩
  obtain ⟨n2, hn2⟩ : ∃ n2, n - 2 = n2 := ⟨_, rfl⟩
  rw [ha0] at hc0
  rw [ha1] at hc1
  rw [ha2] at hc2
  rw [hn1] at hct1
  rw [hn2] at hct2
  have s0 : IntKind.i64.wrap ((j : Int) + n) = (a0 : Int) := by rw [IntWalk.i64_in _ (by omega)]; omega
  have s1 : IntKind.i64.wrap ((a0 : Int) - 1) = (a1 : Int) := by rw [IntWalk.i64_in _ (by omega)]; omega
  have s2 : IntKind.i64.wrap ((a0 : Int) - 2) = (a2 : Int) := by rw [IntWalk.i64_in _ (by omega)]; omega
  have s3 : IntKind.i64.wrap ((n : Int) - 1) = (n1 : Int) := by rw [IntWalk.i64_in _ (by omega)]; omega
  have s4 : IntKind.i64.wrap ((n : Int) - 2) = (n2 : Int) := by rw [IntWalk.i64_in _ (by omega)]; omega
  have s5 : IntKind.u64.wrap (q0 : Int) = (q0 : Int) := IntWalk.u64_in _ (by omega)
  have b0 : (a0 : Int) < nu := by omega
  have b1 : (a1 : Int) < nu := by omega
  have b2 : (a2 : Int) < nu := by omega
  have b3 : (n1 : Int) < n := by omega
  have b4 : (n2 : Int) < n := by omega
  have ht0 : ((t1' : Int) == 0) = false := by simp; omega
  clear hT hdm hQT hH hq0 hr0 hx0 hx1 hx2 ht1 ht2 ha0 ha1 ha2 hn1 hn2 k1
  go_enter Tryd.func61, Tryd.ntmps61
  go_wp2_with (go_quiet (fail))
  go_loop [12, 13] (fun qv rv => ∃ q r : Nat, qv = .int .u64 q ∧ rv = .int .u64 r ∧ r < 4294967296 ∧ QT ≤ q ∧ q ≤ 4294967297 ∧ Hid (q * t1' + r = H)) (fun qv _ => (intOf qv).toNat)
  case atStart => exact ⟨q0, r0, rfl, rfl, by omega, H0.1, H0.2, HM⟩
  case round =>
    obtain ⟨q, r, rfl, rfl, hrl, hqt, hqu, HI⟩ := hrel
    clear s5 hq1 hr1 hor
    by_cases hA : 4294967296 ≤ q
    · have e0 : (q : Int) / 4294967296 = 1 := by omega
      have hmore : QT < q := by rw [← HQ.out]; exact HT.out.more HI.out (.inl hA)
      obtain ⟨q1, hq1⟩ : ∃ q1, q - 1 = q1 := ⟨_, rfl⟩
      obtain ⟨r1, hr1⟩ : ∃ r1, r + t1' = r1 := ⟨_, rfl⟩
      have e4 : (q : Int) - 1 = (q1 : Int) := by omega
      have e5 : (r : Int) + (t1' : Int) = (r1 : Int) := by omega
      have hr1l : r1 < 8589934592 := by omega
      have hI2 : q1 * t1' + r1 = H := by
        have h1 := HI.out
        rw [show q = q1 + 1 by omega, Nat.add_mul] at h1
        omega
      have HI2 := Lib.hid hI2
      have hq1u : q1 ≤ 4294967296 := by omega
      have hqt1 : QT ≤ q1 := by omega
      by_cases hbr : 4294967296 ≤ r1
      · have e6 : (r1 : Int) / 4294967296 = 1 := by omega
        have hfin : q1 ≤ U / V := HT.out.brk hI2 hq1u hbr
        have hlt1 : q1 < 4294967296 := Nat.lt_of_le_of_lt hfin HT.out.qlt
        rw [HQ.out] at hfin
        clear hI2 hq1 hr1 hm
        go_wp2_with fail
        go_ret
        exact ⟨q1, rfl, hlt1, hqt1, by omega, _, rfl⟩
      · have e6 : (r1 : Int) / 4294967296 = 0 := by omega
        have hlt1 : q1 < q := by omega
        clear hI2 hq1 hr1 hm
        go_wp2_with fail
        exact ⟨⟨q1, rfl, r1, rfl, by omega, hqt1, by omega, HI2⟩, by simp [intOf]; omega⟩
    · have e0 : (q : Int) / 4294967296 = 0 := by omega
      have hor := u64_or_nat (r * 4294967296) x2 (by omega) (by omega)
      obtain ⟨R, hR⟩ : ∃ R, r * 4294967296 + x2 = R := ⟨_, rfl⟩
      rw [nat_join 32 _ _ (by omega) (by omega), hR] at hor
      replace hor : bits .or .u64 ((r : Int) * 4294967296) (x2 : Int) = (R : Int) := hor
      obtain ⟨P, hP⟩ : ∃ P, q * t2 = P := ⟨_, rfl⟩
      have hPi : (q : Int) * (t2 : Int) = (P : Int) := by rw [← hP]; simp
      have hPl : P ≤ 18446744065119617025 := by
        rw [← hP]
        exact Nat.le_trans (Nat.mul_le_mul (show q ≤ 4294967295 by omega) (Nat.le_of_lt_succ htl2)) (by decide)
      by_cases hC : R < P
      · have hmore : QT < q := by rw [← HQ.out]; exact HT.out.more HI.out (.inr (by rw [hR, hP]; exact hC))
        have hd : decide ((R : Int) < P) = true := by simp; exact hC
        clear hR hP
        obtain ⟨q1, hq1⟩ : ∃ q1, q - 1 = q1 := ⟨_, rfl⟩
        obtain ⟨r1, hr1⟩ : ∃ r1, r + t1' = r1 := ⟨_, rfl⟩
        have e4 : (q : Int) - 1 = (q1 : Int) := by omega
        have e5 : (r : Int) + (t1' : Int) = (r1 : Int) := by omega
        have hr1l : r1 < 8589934592 := by omega
        have hI2 : q1 * t1' + r1 = H := by
          have h1 := HI.out
          rw [show q = q1 + 1 by omega, Nat.add_mul] at h1
          omega
        have HI2 := Lib.hid hI2
        have hq1u : q1 ≤ 4294967296 := by omega
        have hqt1 : QT ≤ q1 := by omega
        by_cases hbr : 4294967296 ≤ r1
        · have e6 : (r1 : Int) / 4294967296 = 1 := by omega
          have hfin : q1 ≤ U / V := HT.out.brk hI2 hq1u hbr
          have hlt1 : q1 < 4294967296 := Nat.lt_of_le_of_lt hfin HT.out.qlt
          rw [HQ.out] at hfin
          clear hI2 hq1 hr1 hm
          go_wp2_with fail
          go_ret
          exact ⟨q1, rfl, hlt1, hqt1, by omega, _, rfl⟩
        · have e6 : (r1 : Int) / 4294967296 = 0 := by omega
          have hlt1 : q1 < q := by omega
          clear hI2 hq1 hr1 hm
          go_wp2_with fail
          exact ⟨⟨q1, rfl, r1, rfl, by omega, hqt1, by omega, HI2⟩, by simp [intOf]; omega⟩
      · have hfin : q ≤ QT + 1 := by rw [← HQ.out]; exact HT.out.done HI.out (by omega) (by rw [hR, hP]; omega)
        have hd : decide ((R : Int) < P) = false := by simp; omega
        clear hR hP
        go_wp2_with fail
        go_ret
        exact ⟨q, rfl, by omega, hqt, hfin, _, rfl⟩
end Go.Proofs.YticheiocmhaakaaDoor
