/- CrcTurned: bytes of which bits within 32 one behind the other are turned have another sum. No condition. -/
import Derived.Test.YtjdgkeajjmoglaaCrcOpens
namespace Go.Proofs.Ytjdgkeajjmoglaa
open Go.RowKit

theorem num_set (l : List Nat) (hl : ∀ x ∈ l, x < 256) (j x z : Nat) (hx : l[j]? = some x) (hz : z < 256) : Crc.num (l.set j (x ^^^ z)) = Crc.num l ^^^ (2 ^ (8 * j) * z) := by
  have hj : j < l.length := (List.getElem?_eq_some_iff.1 hx).1
  have hxe : l[j] = x := (List.getElem?_eq_some_iff.1 hx).2
  have hxl : x < 256 := hl x (List.mem_of_getElem? hx)
  have hxz : x ^^^ z < 256 := Nat.xor_lt_two_pow (n := 8) hxl hz
  have h1 := split_at l j hj
  rw [hxe] at h1
  rw [set_split l j _ hj]
  have hm := Crc.num_mid (l.take j) [x] [x ^^^ z] (l.drop (j + 1)) (fun c hc => hl c (List.mem_of_mem_take hc)) (by simpa using hxl) (by simpa using hxz) rfl
  rw [← h1, List.length_take, Nat.min_eq_left (by omega)] at hm
  have hn : Crc.num [x] ^^^ Crc.num [x ^^^ z] = z := by
    simp only [Crc.num, Nat.mul_zero, Nat.add_zero]
    rw [← Nat.xor_assoc, Nat.xor_self, Nat.zero_xor]
  rw [hn] at hm
  rw [← hm, ← Nat.xor_assoc, Nat.xor_self, Nat.zero_xor]
theorem mod_step (d i : Nat) : (d / 2 ^ i % 2 = 0 → d % 2 ^ (i + 1) = d % 2 ^ i) ∧ (d / 2 ^ i % 2 = 1 → d % 2 ^ (i + 1) = (d % 2 ^ i) ^^^ 2 ^ i) := by
  have h := Nat.mod_pow_succ (x := d) (b := 2) (k := i)
  have hlt : d % 2 ^ i < 2 ^ i := Nat.mod_lt _ (Nat.two_pow_pos i)
  constructor
  · intro h0; rw [h, h0, Nat.mul_zero, Nat.add_zero]
  · intro h1
    rw [h, h1, Nat.mul_one]
    have := Crc.add_xor i (d % 2 ^ i) 1 hlt
    simpa using this
theorem turn_step (N k i d : Nat) (h1 : d / 2 ^ i % 2 = 1) : N ^^^ (2 ^ k * (d % 2 ^ i)) ^^^ (2 ^ (8 * ((k + i) / 8)) * 2 ^ ((k + i) % 8)) = N ^^^ (2 ^ k * (d % 2 ^ (i + 1))) := by
  have e : 2 ^ (8 * ((k + i) / 8)) * 2 ^ ((k + i) % 8) = 2 ^ k * 2 ^ i := by
    rw [← Nat.pow_add, ← Nat.pow_add]
    congr 1
    omega
  rw [e, Nat.xor_assoc, Crc.mul_xor, (mod_step d i).2 h1]

theorem pow_byte (m : Nat) (h : m < 8) : 2 ^ m < 256 := Nat.pow_lt_pow_right (by decide) h
theorem xor_pow (x m : Nat) (hx : x < 256) (hp : 2 ^ m < 256) : bits .xor .u8 (x : Int) (2 ^ m % 256) = ((x ^^^ 2 ^ m : Nat) : Int) := by
  have e : (2 : Int) ^ m % 256 = ((2 ^ m : Nat) : Int) := by
    have : ((2 ^ m : Nat) : Int) = (2 : Int) ^ m := by simp
    rw [← this]
    generalize 2 ^ m = p at *
    omega
  rw [e, u8_xor_nat x _ hx hp]
set_option maxRecDepth 100000 in
set_option maxHeartbeats 800000 in
theorem crcTurned_any (A : Option Addr) (n c : Nat) (l : List Nat) (at_ d : Nat) (w : World) (hr : Ints w .u8 256 A n c l) (hn : n ≤ maxLen) (hat : at_ < 65536) (hd : d < 4294967296) :
    Calls Try.prog 4 #[.slice A n c, .int .u16 (at_ : Int), .int .u32 (d : Int)] w fun e w' => e = .returned (.bool true) ∧ Below w.heap.size w w' := by
  unfold maxLen at hn
  by_cases h4 : n < 4
  · go_enter Try.func4, Try.ntmps4
    go_wp2_with (go_at_call 14; refine (awake_any _).mono ?_; rintro e w1 ⟨rfl, b1⟩)
    go_ret
    exact ⟨rfl, b1⟩
  by_cases h3 : 3000 < n
  · go_enter Try.func4, Try.ntmps4
    go_wp2_with (go_at_call 14; refine (awake_any _).mono ?_; rintro e w1 ⟨rfl, b1⟩)
    go_ret
    exact ⟨rfl, b1⟩
  by_cases h0 : d = 0
  · subst h0
    go_enter Try.func4, Try.ntmps4
    go_wp2_with (go_at_call 14; refine (awake_any _).mono ?_; rintro e w1 ⟨rfl, b1⟩)
    go_ret
    exact ⟨rfl, b1⟩
  have h0' : ((d : Int) == 0) = false := by simp; omega
  obtain ⟨k, hk⟩ : ∃ k, at_ % (8 * n - 31) = k := ⟨_, rfl⟩
  have hkl : k < 8 * n - 31 := by rw [← hk]; exact Nat.mod_lt _ (by omega)
  have hmod : (at_ : Int) % (8 * (n : Int) - 31) = (k : Int) := by
    have e : ((8 * n - 31 : Nat) : Int) = 8 * (n : Int) - 31 := by omega
    rw [← hk, Int.natCast_emod, e]
  have H0 := Lib.hid h0
  clear hk h0
  go_enter Try.func4, Try.ntmps4
  go_wp2_with (first
    | (go_at_call 14; refine (awake_any _).mono ?_; rintro e w1 ⟨rfl, b1⟩)
    | (at_builtin; go_must (refine wpList_appI _ rfl _ _ _ rfl 5 1 Try.underlying22 info_u8 (by omega) (OwnI.empty (base := w1.heap.size) .u8 256 5 rfl (Nat.le_refl _)) rfl ((hr.below b1).alloc _) rfl (by omega) (by simp) ?_); intro A2 c2 w2 o2 g2 a2))
  simp only [List.nil_append, Nat.zero_add] at o2
  have b2 : Below w.heap.size w w2 := below_own (b1.alloc b1.size _) g2 (by simp; have := b1.size; omega) (by simp; exact b1.size)
  obtain ⟨g, _, rfl, hg1, hg2, _⟩ := o2.get (k := 0) (by omega)
  have hll := hr.len
  have hb1 := b1.size
  go_loopw [9] (fun i wr => ∃ j : Nat, j ≤ 32 ∧ i = .int .i64 j ∧ ∃ L, OwnI wr w1.heap.size .u8 256 5 (some ⟨g, 0, none⟩) n c2 L ∧ Crc.num L = Crc.num l ^^^ (2 ^ k * (d % 2 ^ j)) ∧ Below w.heap.size w wr) (fun i _ => 32 - (intOf i).toNat)
  case atStart => exact ⟨0, by omega, rfl, l, o2, by simp [Nat.mod_one], b2⟩
  case round =>
    obtain ⟨j, hj, rfl, L, oL, hL, bL⟩ := hrel
    have HL := Lib.hid hL
    clear hL
    by_cases hlt : j < 32
    · obtain ⟨y, hy⟩ : ∃ y, d / 2 ^ j = y := ⟨_, rfl⟩
      have hsh : (d : Int) / 2 ^ j = (y : Int) := by rw [← hy]; simp
      have HM0 := Lib.hid (mod_step d j).1
      have HM1 := Lib.hid (turn_step (Crc.num l) k j d)
      rw [hy] at HM0 HM1
      clear hy
      rcases Nat.mod_two_eq_zero_or_one y with hb | hb
      · have ht : ((y : Int) % 2 == 1) = false := by simp; omega
        have HB := Lib.hid hb
        clear hb
        go_wp2_with fail
        exact ⟨⟨j + 1, by omega, by go_num, L, oL, by rw [HL.out, HM0.out HB.out], bL⟩, by simp [intOf]; omega⟩
      · have ht : ((y : Int) % 2 == 1) = true := by simp; omega
        have HB := Lib.hid hb
        clear hb
        obtain ⟨_, x, e, _, _, hx, hxl, hc, hf⟩ := oL.get (k := (k + j) / 8) (by omega)
        cases e
        have HX := Lib.hid hx
        clear hx
        have hp := pow_byte ((k + j) % 8) (Nat.mod_lt _ (by decide))
        have HZ := Lib.hid (num_set L oL.lt ((k + j) / 8) x (2 ^ ((k + j) % 8)) HX.out hp)
        have hxor := xor_pow x ((k + j) % 8) hxl hp
        have hzl : x ^^^ 2 ^ ((k + j) % 8) < 256 := Nat.xor_lt_two_pow (n := 8) hxl hp
        generalize x ^^^ 2 ^ ((k + j) % 8) = z at *
        clear hp
        go_wp2_with fail
        exact ⟨⟨j + 1, by omega, by go_num, _, oL.stored _ z hzl, by rw [HZ.out, HL.out, HM1.out HB.out], bL.setCell (by simp; omega) _⟩, by simp [intOf]; omega⟩
    · obtain rfl : j = 32 := by omega
      have hne : Crc.sum L ≠ Crc.sum l := by
        have hd32 : d % 2 ^ 32 = d := Nat.mod_eq_of_lt (by omega)
        have h := HL.out
        rw [hd32] at h
        refine Crc.sum_window L l oL.lt hr.lt (by rw [oL.len, hll]) k d (by omega) H0.out (by rw [oL.len]; omega) ?_
        rw [h, Nat.xor_comm (Crc.num l), Nat.xor_assoc, Nat.xor_self, Nat.xor_zero]
      have ht : ((Crc.sum L : Int) != (Crc.sum l : Int)) = true := by simp; omega
      clear hne
      go_wp2_with fail
      refine (sum_any _ _ _ L _ oL.ints (by omega)).mono ?_
      rintro e w4 ⟨rfl, b4'⟩
      have b4 := below_step bL b4' bL.size
      go_wp2_with fail
      refine (sum_any _ _ _ l _ (hr.below b4) (by omega)).mono ?_
      rintro e w5 ⟨rfl, b5'⟩
      go_wp2_with fail
      go_ret
      exact ⟨rfl, below_step b4 b5' b4.size⟩
end Go.Proofs.Ytjdgkeajjmoglaa
