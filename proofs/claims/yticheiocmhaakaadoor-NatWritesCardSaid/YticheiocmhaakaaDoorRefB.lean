/- The contracts of heijunkaref01.Digits, Limbs, Trim, Cmp. No condition but the reach of a slice. -/
import Derived.Test.YticheiocmhaakaaDoorRefA
namespace Go.Proofs.YticheiocmhaakaaDoor
open Go.RowKit

theorem pow_limb (k : Nat) : 4294967296 ^ k = 256 ^ (4 * k) := by rw [show (4294967296 : Nat) = 256 ^ 4 from rfl, ← Nat.pow_mul]
theorem dv_take_getD (l : List Nat) (k y : Nat) (hy : l[k]?.getD 0 = y) : dv (l.take (k + 1)) = dv (l.take k) + 256 ^ k * y := by subst hy; exact Num.val_take_getD _ l k

set_option maxRecDepth 100000 in
set_option maxHeartbeats 1600000 in
theorem digits_any (A : Option Addr) (n c : Nat) (l : List Nat) (w : World) (hr : Lim w A n c l) (hn : n ≤ 549755813888) :
    Calls Tryd.prog 41 #[.slice A n c] w fun e w' => ∃ A2 m c2, e = .returned (.slice A2 m c2) ∧ m ≤ 4 * n ∧ OwnD w' w.heap.size A2 m c2 (dg (vl l)) ∧ Below w.heap.size w w' := by
  have hlen := hr.len
  go_enter Tryd.func41, Tryd.ntmps41
  go_wp2_with fail
  go_loopw [3, 4] (fun dv_ iv wr => ∃ (k : Nat) (C : Option Addr) (x y : Nat) (D : List Nat), k ≤ n ∧ iv = .int .i64 k ∧ dv_ = .slice C x y ∧ x = 4 * k ∧ OwnD wr w.heap.size C x y D ∧ Hid (dv D = vl (l.take k)) ∧ Below w.heap.size w wr) (fun _ iv _ => n - (intOf iv).toNat)
  case atStart => exact ⟨0, none, 0, 0, [], by omega, rfl, rfl, rfl, OwnI.nil_ .., rfl, Below.refl _ _⟩
  case round =>
    obtain ⟨k, C, x, y, D, hk, rfl, rfl, rfl, hod, HV, hb⟩ := hrel
    by_cases hlt : k < n
    · obtain ⟨b, o, x0, rfl, _, hx, hxl, hc⟩ := (hr.below hb).get hlt
      have HX : Hid (vl (l.take (k + 1)) = vl (l.take k) + 4294967296 ^ k * x0) := vl_take_succ hx
      have hDl : D.length = 4 * k := by have := hod.len; exact this
      have HDL := Lib.hid hDl
      clear hx hDl
      go_wp2_with fail
      go_loopw [3, 5, 6] (fun dv_ xv jv wk => ∃ (j X : Nat) (E : List Nat) (C : Option Addr) (x y : Nat), j ≤ 4 ∧ jv = .int .i64 j ∧ xv = .int .u32 X ∧ X < 4294967296 ∧ dv_ = .slice C x y ∧ x = 4 * k + j ∧ OwnD wk w.heap.size C x y (D ++ E) ∧ Hid (E.length = j) ∧
          Hid (dv E + 256 ^ j * X = x0) ∧ Below w.heap.size w wk) (fun _ _ jv _ => 4 - (intOf jv).toNat)
      case atStart =>
        refine ⟨0, x0, [], C, 4 * k, y, by omega, rfl, rfl, hxl, rfl, rfl, by simpa using hod, rfl, ?_, hb⟩
        show _ = _
        simp [dv, Num.val]
      case round =>
        obtain ⟨j, X, E, C, x, y, hj, rfl, rfl, hX, rfl, rfl, hod, HL, HS, hb⟩ := hrel
        by_cases hlj : j < 4
        · obtain ⟨z, hz⟩ : ∃ z, X % 256 = z := ⟨_, rfl⟩
          obtain ⟨X1, hX1⟩ : ∃ X1, X / 256 = X1 := ⟨_, rfl⟩
          have hzl : z < 256 := by omega
          have hX1l : X1 < 4294967296 := by omega
          have e1 : (X : Int) % 256 = (z : Int) := by omega
          have e2 : (X : Int) / 256 = (X1 : Int) := by omega
          have HS2 : Hid (dv (E ++ [z]) + 256 ^ (j + 1) * X1 = x0) := by
            show _ = _
            have h1 := HS.out
            unfold dv at h1 ⊢
            rw [Num.val_snoc, HL.out, Nat.pow_succ, ← h1, show X = z + 256 * X1 by omega, Nat.mul_add]
            simp only [Nat.mul_assoc]
            omega
          clear hz hX1
          go_wp2_with (at_builtin; refine wpList_appI _ rfl _ _ _ rfl 3 8 Tryd.underlying49 info_int (by omega) (hod.alloc _) rfl (Ints.one .i64 256 3 z (by omega) hzl rfl) rfl (by omega) (by simp; have := hb.size; omega) ?_; intro A3 c3 w3 ho3 hg3 ha3)
          have e3 : 4 * k + j + 1 = 4 * k + (j + 1) := by omega
          rw [e3]
          rw [e3] at ho3
          refine ⟨⟨j + 1, X1, E ++ [z], A3, _, c3, by omega, by go_num, rfl, hX1l, rfl, rfl, by simpa using ho3, ?_, HS2, below_own (hb.alloc hb.size _) hg3 (by simp; have := hb.size; omega) (fun ad h => (hod.lt_ ad h).1)⟩, by simp [intOf]; omega⟩
          show _ = _
          rw [List.length_append, HL.out]; rfl
        · obtain rfl : j = 4 := by omega
          have hX0 : X = 0 := by
            have h1 := HS.out
            simp only [show (256 : Nat) ^ 4 = 4294967296 from rfl] at h1
            omega
          subst hX0
          have HF : Hid (dv (D ++ E) = vl (l.take (k + 1))) := by
            show _ = _
            have h1 := HS.out
            have h2 := HV.out
            rw [Nat.mul_zero, Nat.add_zero] at h1
            unfold dv at h1 h2 ⊢
            rw [Num.val_append, h1, HDL.out, h2, HX.out, pow_limb]
          go_wp2_with fail
          refine ⟨⟨k + 1, C, _, y, D ++ E, by omega, by go_num, rfl, by omega, hod, HF, hb⟩, by simp [intOf]; omega⟩
    · obtain rfl : k = n := by omega
      have hfin : dv D = vl l := by rw [HV.out, List.take_of_length_le (by omega)]
      have HF := Lib.hid hfin
      have hct := fun w0 h0 => cut_any C (4 * k) y D w0 h0 (by omega)
      clear hfin
      go_wp2_with fail
      refine (hct _ hod.ints).mono ?_; rintro e w2 ⟨m, hm, rfl, hd, rfl⟩
      rw [HF.out] at hd
      have HD := Lib.hid hd
      clear hd hct
      go_wp2_with fail
      go_ret
      exact ⟨C, m, y, rfl, hm, by rw [← HD.out]; exact hod.shrink hm, hb⟩

set_option maxRecDepth 100000 in
set_option maxHeartbeats 1600000 in
theorem limbs_any (A : Option Addr) (n c : Nat) (l : List Nat) (w : World) (hr : Dg w A n c l) (hn : n ≤ 4398046511104) :
    Calls Tryd.prog 39 #[.slice A n c] w fun e w' => ∃ A2 m c2, e = .returned (.slice A2 m c2) ∧ m ≤ n ∧ OwnL w' w.heap.size A2 m c2 (lmb (dv l)) ∧ Below w.heap.size w w' := by
  have hct := fun w0 h0 => cut_any A n c l w0 h0 (by omega)
  go_enter Tryd.func39, Tryd.ntmps39
  go_wp2_with fail
  refine (hct _ hr).mono ?_; rintro e w2 ⟨N, hN, rfl, hd, rfl⟩
  have hr2 : Dg w2 A N c (l.take N) := hr.take hN (Nat.le_trans hN hr.rd.cap)
  obtain ⟨d, hde⟩ : ∃ d, l.take N = d := ⟨_, rfl⟩
  rw [hde] at hd hr2
  have hdl := hr2.len
  have HDE : Hid (d = dg (dv l)) := hd
  clear hd hde hct
  obtain ⟨v, hv⟩ : ∃ v, dv l = v := ⟨_, rfl⟩
  rw [hv] at HDE
  have HVL := Lib.hid hv
  clear hv
  go_wp2_with fail
  go_loopw [3, 4] (fun ov iv wr => ∃ (m : Nat) (C : Option Addr) (y : Nat) (o : List Nat), 4 * m < N + 4 ∧ iv = .int .i64 ((4 * m : Nat) : Int) ∧ ov = .slice C m y ∧ OwnL wr w2.heap.size C m y o ∧ Hid (vl o = dv (d.take (4 * m))) ∧ Below w2.heap.size w2 wr) (fun _ iv _ => N + 4 - (intOf iv).toNat)
  case atStart => exact ⟨0, none, 0, [], by omega, rfl, rfl, OwnI.nil_ .., rfl, Below.refl _ _⟩
  case round =>
    obtain ⟨m, C, y, o, hm, rfl, rfl, hoo, HV, hb⟩ := hrel
    by_cases hlt : 4 * m < N
    · obtain ⟨i, hi⟩ : ∃ i, 4 * m = i := ⟨_, rfl⟩
      rw [hi] at hm HV hlt ⊢
      have HI := Lib.hid hi
      have hmN : m ≤ N := by omega
      clear hi
      have hlt' : (i : Int) < (N : Int) := by omega
      go_wp2_with fail
      go_loopw [5, 6] (fun xv kv wk => ∃ kk X : Nat, kk ≤ 4 ∧ kv = .int .i64 ((kk : Int) - 1) ∧ xv = .int .u32 X ∧ Hid (X < 256 ^ (4 - kk)) ∧ X < 4294967296 ∧ Hid (dv (d.take (i + kk)) + 256 ^ (i + kk) * X = dv (d.take (i + 4))) ∧ wk = wr) (fun _ kv _ => (intOf kv + 1).toNat)
      case atStart =>
        refine ⟨4, 0, by omega, rfl, rfl, ?_, by omega, ?_, rfl⟩
        · show _ < _; simp
        · show _ = _; simp
      case round =>
        obtain ⟨kk, X, hkk, rfl, rfl, HB, hX, HS, rfl⟩ := hrel
        cases kk with
        | zero =>
          have HF : Hid (vl (o ++ [X]) = dv (d.take (4 * (m + 1)))) := by
            show _ = _
            have h1 := HS.out
            have h2 := HV.out
            have h3 := hoo.len
            rw [Nat.add_zero] at h1
            unfold vl at h2 ⊢
            rw [Num.val_snoc, h2, h3, pow_limb, HI.out, h1]
            congr 1
            congr 1
            have := HI.out
            omega
          go_wp2_with (at_builtin; refine wpList_appI _ rfl _ _ _ rfl 33 4 Tryd.underlying22 info_u32 (by omega) (hoo.alloc _) rfl (Ints.one .u32 4294967296 33 X (by omega) hX rfl) rfl (by omega) (by simp; have := hb.size; omega) ?_; intro A3 c3 w3 ho3 hg3 ha3)
          have hi := HI.out
          refine ⟨⟨m + 1, A3, c3, _, by omega, by congr 1; omega, rfl, ho3, HF, below_own (hb.alloc hb.size _) hg3 (by simp; have := hb.size; omega) (fun ad h => (hoo.lt_ ad h).1)⟩, by simp [intOf]; omega⟩
        | succ kk =>
          have ek : ((kk + 1 : Nat) : Int) - 1 = (kk : Int) := by omega
          obtain ⟨g, hg⟩ : ∃ g, d[i + kk]?.getD 0 = g := ⟨_, rfl⟩
          have hgl := getD_lt (by omega) hr2.lt (i + kk) g hg
          have hX3 : X < 16777216 := by
            have h1 := HB.out
            have h2 : 256 ^ (4 - (kk + 1)) ≤ 256 ^ 3 := Nat.pow_le_pow_right (by decide) (by omega)
            have h3 : (256 : Nat) ^ 3 = 16777216 := rfl
            omega
          have HS2 : Hid (dv (d.take (i + kk)) + 256 ^ (i + kk) * (X * 256 + g) = dv (d.take (i + 4))) := by
            show _ = _
            have h1 := HS.out
            rw [← Nat.add_assoc, dv_take_getD d (i + kk) g hg, Nat.pow_succ] at h1
            rw [Nat.mul_add, Nat.mul_comm X 256, ← Nat.mul_assoc]
            omega
          have HB2 : Hid (X * 256 + g < 256 ^ (4 - kk)) := by
            show _ < _
            have h1 := HB.out
            have h2 : 256 ^ (4 - kk) = 256 ^ (4 - (kk + 1)) * 256 := by rw [← Nat.pow_succ]; congr 1; omega
            omega
          obtain ⟨p, hp⟩ : ∃ p, i + kk = p := ⟨_, rfl⟩
          have ep : (i : Int) + (kk : Int) = (p : Int) := by omega
          by_cases hpn : p < N
          · obtain ⟨b, off, x, rfl, _, hx, hxl, hc⟩ := (hr2.below hb).get hpn
            have hgx : x = g := by
              rw [hp, hx] at hg
              exact hg
            subst hgx
            have HP := Lib.hid hp
            have hpi : (p : Int) < (N : Int) := by omega
            clear hx hg hp
            go_wp2_with fail
            refine ⟨⟨kk, X * 256 + x, by omega, rfl, by go_num, HB2, by omega, HS2, by first | rfl | trivial⟩, by simp [intOf]⟩
          · have hg0 : g = 0 := by
              rw [hp, List.getElem?_eq_none (by omega)] at hg
              exact hg.symm
            subst hg0
            have HP := Lib.hid hp
            have hpi : ¬ (p : Int) < (N : Int) := by omega
            clear hg hp
            go_wp2_with fail
            refine ⟨⟨kk, X * 256, by omega, rfl, by go_num, HB2, by omega, HS2, by first | rfl | trivial⟩, by simp [intOf]⟩
    · have hfin : o = lmb v := by
        have h1 := HV.out
        rw [List.take_of_length_le (by omega)] at h1
        have h2 : dv d = v := by rw [HDE.out]; exact dv_dg v
        rw [h2] at h1
        refine Num.dig_of (by decide) o m v hoo.len hoo.lt h1 ?_
        rcases Nat.eq_zero_or_pos m with h0 | h0
        · exact .inl h0
        · refine .inr ?_
          have h3 : (Num.dig 256 v).length = (N - 1) + 1 := by
            show (dg v).length = _
            rw [← HDE.out, hdl]; omega
          have h4 := Num.dig_ge (by decide) h3
          rw [pow_limb]
          exact Nat.le_trans (Nat.pow_le_pow_right (by decide) (by omega)) h4
      have HF := Lib.hid hfin
      have hlt' : ¬ ((4 * m : Nat) : Int) < (N : Int) := by omega
      obtain ⟨i, hi⟩ : ∃ i, 4 * m = i := ⟨_, rfl⟩
      rw [hi] at hlt' ⊢
      clear hfin hi
      go_wp2_with fail
      go_ret
      exact ⟨C, m, y, rfl, by omega, by rw [HVL.out, ← HF.out]; exact hoo, hb⟩
end Go.Proofs.YticheiocmhaakaaDoor
