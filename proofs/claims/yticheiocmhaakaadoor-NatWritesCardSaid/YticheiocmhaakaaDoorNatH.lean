/- The contracts of nat.shift, nat.guess, nat.less, nat.back. No condition but the reach of a slice. -/
import Derived.Test.YticheiocmhaakaaDoorNatC
import Derived.Test.YticheiocmhaakaaDoorBits
namespace Go.Proofs.YticheiocmhaakaaDoor
open Go.RowKit

set_option maxRecDepth 100000 in
set_option maxHeartbeats 800000 in
theorem shift_any (A : Option Addr) (n c : Nat) (l : List Nat) (w : World) (hr : Lim w A n c l) (hn : n ≤ 549755813888) (s : Nat) (hs : s < 32) :
    Calls Tryd.prog 60 #[.slice A n c, .int .i64 s] w fun e w' => ∃ A2 o, e = .returned (.slice A2 (n + 1) (n + 1)) ∧ OwnL w' w.heap.size A2 (n + 1) (n + 1) o ∧ vl o = vl l * 2 ^ s ∧ Below w.heap.size w w' := by
  have hlen := hr.len
  go_enter Tryd.func60, Tryd.ntmps60
  go_wp2_with (refine wpList_mkL rfl _ _ rfl (n + 1) rfl rfl (by omega) (by omega) (by omega) w.heap.size (Nat.le_refl _) ?_; intro w2 hown hg2)
  have hb2 := below_none (Below.refl w.heap.size w) hg2 (Nat.le_refl _)
  go_loopw [15] (fun i wr => ∃ k : Nat, k ≤ n ∧ i = .int .i64 k ∧ ∃ o : List Nat, OwnL wr w.heap.size (some ⟨w.heap.size, 0, none⟩) (n + 1) (n + 1) o ∧
      Hid (vl (o.take (k + 1)) = vl (l.take k) * 2 ^ s) ∧ Hid (∀ z, o[k]? = some z → z < 2 ^ s) ∧ Below w.heap.size w wr) (fun i _ => n - (intOf i).toNat)
  case atStart =>
    refine ⟨0, by omega, rfl, _, hown, ?_, ?_, hb2⟩
    · show _ = _
      simp [vl, Num.val]
    · show ∀ z, _ → _
      intro z hz
      simp at hz
      rw [← hz]
      exact Nat.two_pow_pos s
  case round =>
    obtain ⟨k, hk, rfl, o, ho, HV, HZ, hb⟩ := hrel
    by_cases hlt : k < n
    · obtain ⟨b, off, x, rfl, _, hx, hxl, hc⟩ := (hr.below hb).get hlt
      obtain ⟨g, z, he, _, _, hz, hzl, hco, hf⟩ := ho.get (k := k) (by omega)
      cases he
      obtain ⟨g, y, he, _, _, hy, hyl, hcy, hfy⟩ := ho.get (k := k + 1) (by omega)
      cases he
      have HX := Lib.hid hx
      have HZ0 := Lib.hid hz
      have HY := Lib.hid hy
      clear hx hz hy
      obtain ⟨v, hv⟩ : ∃ v, x * 2 ^ s = v := ⟨_, rfl⟩
      have hp : 2 ^ s ≤ 2147483648 := Nat.pow_le_pow_right (by omega) (show s ≤ 31 by omega)
      have hvl : v < 9223372036854775808 := by
        rw [← hv]
        have := Nat.mul_le_mul (Nat.le_of_lt_succ hxl) hp
        omega
      have hvi : (x : Int) * 2 ^ s = (v : Int) := by rw [← hv]; simp
      have hdv : 2 ^ s ∣ 4294967296 := ⟨2 ^ (32 - s), by rw [← Nat.pow_add, show s + (32 - s) = 32 by omega]⟩
      have hz2 := HZ.out z HZ0.out
      have hj := u32_or_nat z (v % 4294967296) (by omega) (Nat.mod_lt _ (by omega))
      have hor : z ||| v % 4294967296 < 4294967296 := Nat.or_lt_two_pow (n := 32) (by omega) (Nat.mod_lt _ (by omega))
      rw [Nat.or_comm, nat_join s (v % 4294967296) z (by rw [Nat.mod_mod_of_dvd _ hdv, ← hv]; exact Nat.mul_mod_left _ _) hz2] at hj hor
      have hcar : v / 4294967296 < 2 ^ s := by
        rw [Nat.div_lt_iff_lt_mul (by omega), ← hv, Nat.mul_comm (2 ^ s)]
        exact Nat.mul_lt_mul_of_pos_right hxl (Nat.two_pow_pos s)
      have HV2 : Hid (vl (((o.set k (v % 4294967296 + z)).set (k + 1) (v / 4294967296)).take (k + 1 + 1)) = vl (l.take (k + 1)) * 2 ^ s) := by
        show _ = _
        have h1 := HV.out
        rw [vl_take_succ HZ0.out] at h1
        rw [vl_take_set _ (by simp [ho.len]; omega), vl_take_set _ (by rw [ho.len]; omega), vl_take_succ HX.out, Nat.add_mul, ← h1, Nat.mul_assoc, hv, Nat.pow_succ]
        have h2 : 4294967296 ^ k * (v % 4294967296 + 4294967296 * (v / 4294967296)) = 4294967296 ^ k * v := by rw [Nat.mod_add_div]
        rw [Nat.mul_add, ← Nat.mul_assoc] at h2
        rw [Nat.mul_add]
        omega
      obtain ⟨hi, hhi⟩ : ∃ hi, v / 4294967296 = hi := ⟨_, rfl⟩
      obtain ⟨lo, hlo⟩ : ∃ lo, v % 4294967296 = lo := ⟨_, rfl⟩
      obtain ⟨m, hm⟩ : ∃ m, lo + z = m := ⟨_, rfl⟩
      have e2 : (v : Int) % 4294967296 = (lo : Int) := by omega
      have e3 : (v : Int) / 4294967296 = (hi : Int) := by omega
      rw [hlo, hm] at hj hor HV2
      rw [hhi] at hcar HV2
      have hcl : hi < 4294967296 := by omega
      have HC : Hid (hi < 2 ^ s) := hcar
      clear hv hdv hz2 hlo hm hhi hcar hp
      go_wp2_with fail
      refine ⟨⟨k + 1, by omega, by go_num, _, (ho.stored k m hor).stored (k + 1) hi hcl, HV2, ?_, (hb.setCell (Nat.le_refl _) _).setCell (Nat.le_refl _) _⟩, by simp [intOf]; omega⟩
      show ∀ z, _ → _
      intro z' hz'
      rw [List.getElem?_set_self (by simp [ho.len]; omega)] at hz'
      cases hz'
      exact HC.out
    · obtain rfl : k = n := by omega
      have hfin : vl o = vl l * 2 ^ s := by
        have h1 := HV.out
        rw [List.take_of_length_le (l := o) (by rw [ho.len]; omega), List.take_of_length_le (l := l) (by omega)] at h1
        exact h1
      have HF := Lib.hid hfin
      clear hfin
      go_wp2_with fail
      go_ret
      exact ⟨_, o, rfl, ho, HF.out, hb⟩

theorem mid_get (h m t : List Nat) (i : Nat) (hi : i < m.length) : (h ++ (m ++ t))[h.length + i]? = m[i]? := by
  rw [List.getElem?_append_right (by omega), Nat.add_sub_cancel_left, List.getElem?_append_left hi]
theorem mid_set (h m t : List Nat) (i y : Nat) (hi : i < m.length) : (h ++ (m ++ t)).set (h.length + i) y = h ++ (m.set i y ++ t) := by
  rw [List.set_append_right _ _ (by omega), Nat.add_sub_cancel_left, List.set_append_left _ _ hi]
theorem less_step (P s q V M B C b x y d b' lo C' : Nat) (hs : s + q * V = M + P * (C + b)) (hc : C + q * x = lo + B * C') (hd : d + lo + b = y + B * b') :
    (s + P * d) + q * (V + P * x) = (M + P * y) + P * B * (C' + b') := by
  have h1 : P * (C + q * x) = P * (lo + B * C') := by rw [hc]
  have h2 : P * (d + lo + b) = P * (y + B * b') := by rw [hd]
  simp only [Nat.mul_add, ← Nat.mul_assoc] at *
  have e : q * P * x = P * q * x := by rw [Nat.mul_comm q P]
  omega
theorem drop_set_lt {l : List Nat} {i : Nat} (y : Nat) : (l.set i y).drop (i + 1) = l.drop (i + 1) := List.drop_set_of_lt (by omega)

set_option maxRecDepth 100000 in
set_option maxHeartbeats 1600000 in
/-- q times v is taken from m, which lies in u. -/
theorem less_any (base : Nat) (A Av : Option Addr) (nu cu n cv : Nat) (h m t v : List Nat) (q : Nat) (w : World) (ho : OwnL w base A nu cu (h ++ (m ++ t))) (hv : Lim w Av n cv v) (hd : ∀ x y, A = some x → Av = some y → x.block ≠ y.block)
    (hm : m.length = n + 1) (hq : q < 4294967296) (hu : nu ≤ 1099511627776) :
    Calls Tryd.prog 62 #[.slice A nu cu, .slice Av n cv, .int .i64 (h.length : Nat), .int .u64 q] w fun e w' => ∃ m' b, e = .returned (.bool (decide (b = 1))) ∧ b ≤ 1 ∧ m'.length = n + 1 ∧
      OwnL w' base A nu cu (h ++ (m' ++ t)) ∧ vl m' + q * vl v = vl m + 4294967296 ^ (n + 1) * b ∧ w.grownBy w' (A.map (·.block)) := by
  have hvl := hv.len
  have hlu := ho.len
  simp only [List.length_append] at hlu
  obtain ⟨g, _, rfl, hbg, hgs, _⟩ := ho.get (k := h.length) (by omega)
  obtain ⟨j, hj⟩ : ∃ j, h.length = j := ⟨_, rfl⟩
  rw [hj] at hlu ⊢
  go_enter Tryd.func62, Tryd.ntmps62
  go_wp2_with fail
  go_loopw [9, 10, 15] (fun bw cy i wr => ∃ k b C : Nat, k ≤ n ∧ i = .int .i64 k ∧ bw = .int .u32 b ∧ b ≤ 1 ∧ cy = .int .u64 C ∧ C < 4294967296 ∧ ∃ mi : List Nat, mi.length = n + 1 ∧ OwnL wr base (some ⟨g, 0, none⟩) nu cu (h ++ (mi ++ t)) ∧
      Hid (mi.drop k = m.drop k) ∧ Hid (vl (mi.take k) + q * vl (v.take k) = vl (m.take k) + 4294967296 ^ k * (C + b)) ∧ w.grownBy wr (some g)) (fun _ _ i _ => n - (intOf i).toNat)
  case atStart =>
    refine ⟨0, 0, 0, by omega, rfl, rfl, by omega, rfl, by omega, m, hm, ho, rfl, ?_, World.grownBy.refl _ _⟩
    show _ = _
    simp [vl, Num.val]
  case round =>
    obtain ⟨k, b, C, hk, rfl, rfl, hbb, rfl, hC, mi, hml, ho, HD, HS, hg⟩ := hrel
    by_cases hlt : k < n
    · obtain ⟨bv, off, x, rfl, hbv, hx, hxl, hc⟩ := hv.get hlt
      have hne : bv ≠ g := fun e => hd ⟨g, 0, none⟩ ⟨bv, off, none⟩ rfl rfl e.symm
      have hc2 : wr.cell? ⟨bv, off + k, none⟩ = some (.int .u32 (x : Int)) := (hg.cell_far ⟨bv, off + k, none⟩ hbv (by simpa using hne)).trans hc
      obtain ⟨g', y, he, _, _, hy, hyl, hco, hf⟩ := ho.get (k := j + k) (by omega)
      cases he
      rw [← hj, mid_get h mi t k (by omega)] at hy
      have hym : m[k]? = some y := by
        have h1 := congrArg (fun l : List Nat => l[0]?) HD.out
        simp only [List.getElem?_drop, Nat.add_zero] at h1
        rw [← h1]; exact hy
      obtain ⟨P, hP⟩ : ∃ P, q * x = P := ⟨_, rfl⟩
      have hPi : (q : Int) * (x : Int) = (P : Int) := by rw [← hP]; simp
      have hPl : P ≤ 18446744065119617025 := by
        rw [← hP]
        exact Nat.le_trans (Nat.mul_le_mul (Nat.le_of_lt_succ hq) (Nat.le_of_lt_succ hxl)) (by decide)
      obtain ⟨hi, hhi⟩ : ∃ hi, (C + P) / 4294967296 = hi := ⟨_, rfl⟩
      obtain ⟨lo, hlo⟩ : ∃ lo, (C + P) % 4294967296 = lo := ⟨_, rfl⟩
      have e2 : ((C : Int) + P) % 4294967296 = (lo : Int) := by omega
      have e3 : ((C : Int) + P) / 4294967296 = (hi : Int) := by omega
      have hlol : lo < 4294967296 := by omega
      have hhil : hi < 4294967296 := by omega
      obtain ⟨d, bo, hdl, hbo, hdb⟩ : ∃ d bo, d < 4294967296 ∧ bo ≤ 1 ∧ d + lo + b = y + 4294967296 * bo := by
        by_cases h : y < lo + b
        · exact ⟨y + 4294967296 - lo - b, 1, by omega, by omega, by omega⟩
        · exact ⟨y - lo - b, 0, by omega, by omega, by omega⟩
      have hsub := sub32_any y lo b d bo wr hyl hlol hbb hdl hbo hdb
      have hcp : C + q * x = lo + 4294967296 * hi := by rw [hP, ← hlo, ← hhi]; exact (Nat.mod_add_div _ _).symm
      have hstep : vl ((mi.set k d).take (k + 1)) + q * vl (v.take (k + 1)) = vl (m.take (k + 1)) + 4294967296 ^ (k + 1) * (hi + bo) := by
        rw [vl_take_set _ (by omega), vl_take_succ hx, vl_take_succ hym, Nat.pow_succ]
        exact less_step _ _ _ _ _ _ _ _ _ _ _ _ _ _ HS.out hcp hdb
      have HT := Lib.hid hstep
      have ho2 := ho.stored (h.length + k) d hdl
      rw [mid_set h mi t k d (by omega), hj] at ho2
      have HD2 : Hid ((mi.set k d).drop (k + 1) = m.drop (k + 1)) := by
        show _ = _
        have h1 := congrArg (List.drop 1) HD.out
        rw [List.drop_drop, List.drop_drop] at h1
        rw [drop_set_lt]
        exact h1
      clear hstep hcp hdb hym hy hx hP hhi hlo
      go_wp2_with fail
      refine hsub.mono ?_; rintro e w' ⟨rfl, rfl⟩
      go_wp2_with fail
      exact ⟨⟨k + 1, bo, hi, by omega, by go_num, rfl, hbo, rfl, hhil, mi.set k d, by simpa using hml, ho2, HD2, HT, grown_set hg _ _⟩, by simp [intOf]; omega⟩
    · obtain rfl : k = n := by omega
      obtain ⟨g', y, he, _, _, hy, hyl, hco, hf⟩ := ho.get (k := j + k) (by omega)
      cases he
      rw [← hj, mid_get h mi t k (by omega)] at hy
      have hym : m[k]? = some y := by
        have h1 := congrArg (fun l : List Nat => l[0]?) HD.out
        simp only [List.getElem?_drop, Nat.add_zero] at h1
        rw [← h1]; exact hy
      obtain ⟨d, bo, hdl, hbo, hdb⟩ : ∃ d bo, d < 4294967296 ∧ bo ≤ 1 ∧ d + C + b = y + 4294967296 * bo := by
        by_cases h : y < C + b
        · exact ⟨y + 4294967296 - C - b, 1, by omega, by omega, by omega⟩
        · exact ⟨y - C - b, 0, by omega, by omega, by omega⟩
      have hsub := sub32_any y C b d bo wr hyl hC hbb hdl hbo hdb
      have hstep : vl (mi.set k d) + q * vl v = vl m + 4294967296 ^ (k + 1) * bo := by
        have h1 := vl_take_set (l := mi) (k := k) d (by omega)
        rw [List.take_of_length_le (by simp; omega)] at h1
        have h2 := vl_take_succ hym
        rw [List.take_of_length_le (by omega)] at h2
        have h3 := HS.out
        rw [List.take_of_length_le (l := v) (by omega)] at h3
        have h4 : 4294967296 ^ k * (d + C + b) = 4294967296 ^ k * (y + 4294967296 * bo) := by rw [hdb]
        rw [h1, h2, Nat.pow_succ]
        simp only [Nat.mul_add, ← Nat.mul_assoc] at *
        omega
      have HT := Lib.hid hstep
      have ho2 := ho.stored (h.length + k) d hdl
      rw [mid_set h mi t k d (by omega), hj] at ho2
      have hbz : ((bo : Int) != 0) = decide (bo = 1) := by
        obtain rfl | rfl : bo = 0 ∨ bo = 1 := by omega
        · rfl
        · rfl
      have HB := Lib.hid hbz
      clear hstep hdb hym hy hbz
      go_wp2_with fail
      refine hsub.mono ?_; rintro e w' ⟨rfl, rfl⟩
      go_wp2_with fail
      go_ret
      exact ⟨_, bo, ret_bool HB.out, hbo, by simpa using hml, ho2, HT.out, grown_set hg _ _⟩

set_option maxRecDepth 100000 in
set_option maxHeartbeats 1600000 in
/-- v is given back to m, which lies in u. -/
theorem back_any (base : Nat) (A Av : Option Addr) (nu cu n cv : Nat) (h m t v : List Nat) (w : World) (ho : OwnL w base A nu cu (h ++ (m ++ t))) (hv : Lim w Av n cv v) (hd : ∀ x y, A = some x → Av = some y → x.block ≠ y.block)
    (hm : m.length = n + 1) (hu : nu ≤ 1099511627776) :
    Calls Tryd.prog 63 #[.slice A nu cu, .slice Av n cv, .int .i64 (h.length : Nat)] w fun e w' => (∃ x, e = .returned x) ∧ ∃ m' b, b ≤ 1 ∧ m'.length = n + 1 ∧
      OwnL w' base A nu cu (h ++ (m' ++ t)) ∧ vl m' + 4294967296 ^ (n + 1) * b = vl m + vl v ∧ w.grownBy w' (A.map (·.block)) := by
  have hvl := hv.len
  have hlu := ho.len
  simp only [List.length_append] at hlu
  obtain ⟨g, _, rfl, hbg, hgs, _⟩ := ho.get (k := h.length) (by omega)
  obtain ⟨j, hj⟩ : ∃ j, h.length = j := ⟨_, rfl⟩
  rw [hj] at hlu ⊢
  go_enter Tryd.func63, Tryd.ntmps63
  go_wp2_with fail
  go_loopw [6, 11] (fun bw i wr => ∃ k b : Nat, k ≤ n ∧ i = .int .i64 k ∧ bw = .int .u32 b ∧ b ≤ 1 ∧ ∃ mi : List Nat, mi.length = n + 1 ∧ OwnL wr base (some ⟨g, 0, none⟩) nu cu (h ++ (mi ++ t)) ∧
      Hid (mi.drop k = m.drop k) ∧ Hid (vl (mi.take k) + 4294967296 ^ k * b = vl (m.take k) + vl (v.take k)) ∧ w.grownBy wr (some g)) (fun _ i _ => n - (intOf i).toNat)
  case atStart =>
    refine ⟨0, 0, by omega, rfl, rfl, by omega, m, hm, ho, rfl, ?_, World.grownBy.refl _ _⟩
    show _ = _
    simp [vl, Num.val]
  case round =>
    obtain ⟨k, b, hk, rfl, rfl, hbb, mi, hml, ho, HD, HS, hg⟩ := hrel
    by_cases hlt : k < n
    · obtain ⟨bv, off, x, rfl, hbv, hx, hxl, hc⟩ := hv.get hlt
      have hne : bv ≠ g := fun e => hd ⟨g, 0, none⟩ ⟨bv, off, none⟩ rfl rfl e.symm
      have hc2 : wr.cell? ⟨bv, off + k, none⟩ = some (.int .u32 (x : Int)) := (hg.cell_far ⟨bv, off + k, none⟩ hbv (by simpa using hne)).trans hc
      obtain ⟨g', y, he, _, _, hy, hyl, hco, hf⟩ := ho.get (k := j + k) (by omega)
      cases he
      rw [← hj, mid_get h mi t k (by omega)] at hy
      have hym : m[k]? = some y := by
        have h1 := congrArg (fun l : List Nat => l[0]?) HD.out
        simp only [List.getElem?_drop, Nat.add_zero] at h1
        rw [← h1]; exact hy
      obtain ⟨d, bo, hdl, hbo, hdb⟩ : ∃ d bo, d < 4294967296 ∧ bo ≤ 1 ∧ d + 4294967296 * bo = y + x + b := ⟨(y + x + b) % 4294967296, (y + x + b) / 4294967296, by omega, by omega, by omega⟩
      have hadd := add32_any y x b d bo wr hyl hxl hbb hdl hdb
      have hstep : vl ((mi.set k d).take (k + 1)) + 4294967296 ^ (k + 1) * bo = vl (m.take (k + 1)) + vl (v.take (k + 1)) := by
        rw [vl_take_set _ (by omega), vl_take_succ hx, vl_take_succ hym, Nat.pow_succ]
        have h1 := HS.out
        have h4 : 4294967296 ^ k * (d + 4294967296 * bo) = 4294967296 ^ k * (y + x + b) := by rw [hdb]
        simp only [Nat.mul_add, ← Nat.mul_assoc] at *
        omega
      have HT := Lib.hid hstep
      have ho2 := ho.stored (h.length + k) d hdl
      rw [mid_set h mi t k d (by omega), hj] at ho2
      have HD2 : Hid ((mi.set k d).drop (k + 1) = m.drop (k + 1)) := by
        show _ = _
        have h1 := congrArg (List.drop 1) HD.out
        rw [List.drop_drop, List.drop_drop] at h1
        rw [drop_set_lt]
        exact h1
      clear hstep hdb hym hy hx
      go_wp2_with fail
      refine hadd.mono ?_; rintro e w' ⟨rfl, rfl⟩
      go_wp2_with fail
      exact ⟨⟨k + 1, bo, by omega, by go_num, rfl, hbo, mi.set k d, by simpa using hml, ho2, HD2, HT, grown_set hg _ _⟩, by simp [intOf]; omega⟩
    · obtain rfl : k = n := by omega
      obtain ⟨g', y, he, _, _, hy, hyl, hco, hf⟩ := ho.get (k := j + k) (by omega)
      cases he
      rw [← hj, mid_get h mi t k (by omega)] at hy
      have hym : m[k]? = some y := by
        have h1 := congrArg (fun l : List Nat => l[0]?) HD.out
        simp only [List.getElem?_drop, Nat.add_zero] at h1
        rw [← h1]; exact hy
      obtain ⟨d, bo, hdl, hbo, hdb⟩ : ∃ d bo, d < 4294967296 ∧ bo ≤ 1 ∧ d + 4294967296 * bo = y + b := ⟨(y + b) % 4294967296, (y + b) / 4294967296, by omega, by omega, by omega⟩
      have hsum : ((y : Int) + b) % 4294967296 = (d : Int) := by omega
      have hstep : vl (mi.set k d) + 4294967296 ^ (k + 1) * bo = vl m + vl v := by
        have h1 := vl_take_set (l := mi) (k := k) d (by omega)
        rw [List.take_of_length_le (by simp; omega)] at h1
        have h2 := vl_take_succ hym
        rw [List.take_of_length_le (by omega)] at h2
        have h3 := HS.out
        rw [List.take_of_length_le (l := v) (by omega)] at h3
        have h4 : 4294967296 ^ k * (d + 4294967296 * bo) = 4294967296 ^ k * (y + b) := by rw [hdb]
        rw [h1, h2, Nat.pow_succ]
        simp only [Nat.mul_add, ← Nat.mul_assoc] at *
        omega
      have HT := Lib.hid hstep
      have ho2 := ho.stored (h.length + k) d hdl
      rw [mid_set h mi t k d (by omega), hj] at ho2
      clear hstep hdb hym hy
      go_wp2_with fail
      go_end0
      exact ⟨⟨_, rfl⟩, _, bo, hbo, by simpa using hml, ho2, HT.out, grown_set hg _ _⟩
end Go.Proofs.YticheiocmhaakaaDoor
