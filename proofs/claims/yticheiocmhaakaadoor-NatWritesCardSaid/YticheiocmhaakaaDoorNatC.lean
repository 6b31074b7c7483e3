/- The contract of nat.Mul. No condition but the reach of a slice. -/
import Derived.Test.YticheiocmhaakaaDoorNatB
namespace Go.Proofs.YticheiocmhaakaaDoor
open Go.RowKit

theorem vl_set {l : List Nat} {k x : Nat} (y : Nat) (h : l[k]? = some x) : vl (l.set k y) + 4294967296 ^ k * x = vl l + 4294967296 ^ k * y := Num.val_set _ y h
theorem vl_take_succ {l : List Nat} {k x : Nat} (h : l[k]? = some x) : vl (l.take (k + 1)) = vl (l.take k) + 4294967296 ^ k * x := Num.val_take_succ _ h
/-- One digit of a product: vo, vo' the row's value ahead and behind; Pk, Pj the powers. -/
theorem mul_step (Pk Pj vo vo' t V B C x y z : Nat) (hs : vo + Pk * Pj * C = t + Pk * x * V) (hv : vo' + Pk * Pj * z = vo + Pk * Pj * ((C + (x * y + z)) % B)) :
    vo' + Pk * Pj * B * ((C + (x * y + z)) / B) = t + Pk * x * (V + Pj * y) := by
  have h : Pk * Pj * ((C + (x * y + z)) % B + B * ((C + (x * y + z)) / B)) = Pk * Pj * (C + (x * y + z)) := by rw [Nat.mod_add_div]
  have e : Pk * x * (V + Pj * y) = Pk * x * V + Pk * Pj * (x * y) := by
    rw [Nat.mul_add]
    congr 1
    rw [Nat.mul_assoc, Nat.mul_assoc, Nat.mul_left_comm x Pj y]
  rw [Nat.mul_add, Nat.mul_add, Nat.mul_add, ← Nat.mul_assoc] at h
  rw [e]
  omega
theorem zero_of (o : List Nat) (k y N : Nat) (h : ∀ j z, N ≤ j → o[j]? = some z → z = 0) (M : Nat) (hM : N ≤ M) (hk : k < M) : ∀ j z, M ≤ j → (o.set k y)[j]? = some z → z = 0 := by
  intro j z hj hz
  rw [List.getElem?_set_ne (by omega)] at hz
  exact h j z (by omega) hz

set_option maxRecDepth 100000 in
set_option maxHeartbeats 1600000 in
theorem mul_any (A A' : Option Addr) (n c n' c' : Nat) (l l' : List Nat) (w : World) (hr : Lim w A n c l) (hr' : Lim w A' n' c' l') (hn : n ≤ 549755813888) (hn' : n' ≤ 549755813888) :
    Calls Tryd.prog 22 #[.slice A n c, .slice A' n' c'] w fun e w' => ∃ A2 m, e = .returned (.slice A2 m m) ∧ m ≤ n + n' ∧ OwnL w' w.heap.size A2 m m (lmb (vl l * vl l')) ∧ Below w.heap.size w w' := by
  have hlen := hr.len
  have hlen' := hr'.len
  go_enter Tryd.func22, Tryd.ntmps22
  go_wp2_with (refine wpList_mkL rfl _ _ rfl (n + n') rfl rfl (by omega) (by omega) (by omega) w.heap.size (Nat.le_refl _) ?_; intro w2 hown hg2)
  have hb2 := below_none (Below.refl w.heap.size w) hg2 (Nat.le_refl _)
  go_loopw [19] (fun i wr => ∃ k : Nat, k ≤ n ∧ i = .int .i64 k ∧ ∃ o : List Nat, OwnL wr w.heap.size (some ⟨w.heap.size, 0, none⟩) (n + n') (n + n') o ∧
      vl o = vl (l.take k) * vl l' ∧ (∀ j z, k + n' ≤ j → o[j]? = some z → z = 0) ∧ Below w.heap.size w wr) (fun i _ => n - (intOf i).toNat)
  case atStart => exact ⟨0, by omega, rfl, _, hown, by simp [vl, Num.val, Num.val_zeros], fun j z _ hz => by simp [List.getElem?_replicate] at hz; omega, hb2⟩
  case round =>
    obtain ⟨k, hk, rfl, o, ho, hv, hz, hb⟩ := hrel
    by_cases hlt : k < n
    · obtain ⟨b, off, x, rfl, _, hx, hxl, hc⟩ := (hr.below hb).get hlt
      have HX := Lib.hid hx
      have HV := Lib.hid hv
      have HZ := Lib.hid hz
      clear hx hv hz
      go_wp2_with fail
      go_loopw [8, 26] (fun cy i wj => ∃ j C : Nat, j ≤ n' ∧ i = .int .i64 j ∧ cy = .int .u64 C ∧ C < 4294967296 ∧ ∃ o : List Nat, OwnL wj w.heap.size (some ⟨w.heap.size, 0, none⟩) (n + n') (n + n') o ∧
          Hid (vl o + 4294967296 ^ k * 4294967296 ^ j * C = vl (l.take k) * vl l' + 4294967296 ^ k * x * vl (l'.take j)) ∧ Hid (∀ j z, k + n' ≤ j → o[j]? = some z → z = 0) ∧ Below w.heap.size w wj) (fun _ i _ => n' - (intOf i).toNat)
      case atStart =>
        refine ⟨0, 0, by omega, rfl, rfl, by omega, o, ho, ?_, HZ, hb⟩
        show _ = _
        rw [HV.out]; simp [vl, Num.val]
      case round =>
        obtain ⟨j, C, hj, rfl, rfl, hC, o, ho, HS, HZ, hb⟩ := hrel
        by_cases hlj : j < n'
        · obtain ⟨b', off', y, rfl, _, hy, hyl, hc'⟩ := (hr'.below hb).get hlj
          obtain ⟨g, z, he, _, _, hz, hzl, hco, hf⟩ := ho.get (k := k + j) (by omega)
          cases he
          obtain ⟨P, hP⟩ : ∃ P, x * y = P := ⟨_, rfl⟩
          have hPi : (x : Int) * (y : Int) = (P : Int) := by rw [← hP]; simp
          have hPl : P ≤ 18446744065119617025 := by
            rw [← hP]
            exact Nat.le_trans (Nat.mul_le_mul (Nat.le_of_lt_succ hxl) (Nat.le_of_lt_succ hyl)) (by decide)
          have hstep := mul_step (4294967296 ^ k) (4294967296 ^ j) (vl o) (vl (o.set (k + j) ((C + (P + z)) % 4294967296))) (vl (l.take k) * vl l') (vl (l'.take j)) 4294967296 C x y z HS.out
            (by rw [← Nat.pow_add, hP]; exact vl_set _ hz)
          rw [hP, ← vl_take_succ hy] at hstep
          have HT := Lib.hid hstep
          clear hstep hy hz hP
          go_wp2_with fail
          have e1 : ((C : Int) + (P + z)) % 4294967296 = (((C + (P + z)) % 4294967296 : Nat) : Int) := by omega
          have e2 : ((C : Int) + (P + z)) / 4294967296 = (((C + (P + z)) / 4294967296 : Nat) : Int) := by omega
          rw [e1, e2]
          refine ⟨⟨j + 1, _, by omega, by go_num, rfl, by omega, _, ho.stored (k + j) _ (Nat.mod_lt _ (by omega)), ?_, zero_of _ _ _ _ HZ _ (Nat.le_refl _) (by omega), hb.setCell (Nat.le_refl _) _⟩, by simp [intOf]; omega⟩
          show _ = _
          rw [Nat.pow_succ, ← Nat.mul_assoc]
          exact HT.out
        · obtain rfl : j = n' := by omega
          obtain ⟨g, z, he, _, _, hz, _, hco, hf⟩ := ho.get (k := k + j) (by omega)
          cases he
          obtain rfl := HZ.out _ z (Nat.le_refl _) hz
          have hfin : vl (o.set (k + j) C) = vl (l.take (k + 1)) * vl l' := by
            have h1 := vl_set C hz
            have h2 := HS.out
            rw [List.take_of_length_le (l := l') (by omega)] at h2
            rw [Nat.mul_zero, Nat.add_zero, Nat.pow_add] at h1
            rw [h1, h2, vl_take_succ HX.out, Nat.add_mul]
          have HF := Lib.hid hfin
          clear hfin hz
          go_wp2_with fail
          exact ⟨⟨k + 1, by omega, by go_num, _, ho.stored (k + j) C hC, HF.out, fun i u hi hu => zero_of o (k + j) C _ HZ.out (k + 1 + j) (by omega) (by omega) i u hi hu, hb.setCell (Nat.le_refl _) _⟩, by simp [intOf]; omega⟩
    · obtain rfl : k = n := by omega
      rw [List.take_of_length_le (by omega)] at hv
      have HV := Lib.hid hv
      have ht := trim_any (some ⟨w.heap.size, 0, none⟩) (k + n') (k + n') o _ ho.ints (by omega)
      clear hv hz
      go_wp2_with fail
      refine ht.mono ?_; rintro e w' ⟨A2, m, rfl, hm, hO, hB⟩
      rw [HV.out] at hO
      go_wp2_with fail
      go_ret
      exact ⟨_, _, rfl, hm, hO.mono hb.size, below_step hb hB hb.size⟩
end Go.Proofs.YticheiocmhaakaaDoor
