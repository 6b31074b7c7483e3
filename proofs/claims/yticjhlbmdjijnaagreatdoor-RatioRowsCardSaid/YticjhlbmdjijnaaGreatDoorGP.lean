/- Texts of several parts in one: RW9, ZW2. Each says what it proves; no condition but those named there. -/
import Derived.Test.YticjhlbmdjijnaaGreatDoorGO
import Derived.Test.YticjhlbmdjijnaaGreatDoorG8
/- The contracts of heijunkaref02: Div; Add, Sub, Mul once more, of as many limbs as it takes. No condition but the reach of a slice. -/
namespace Go.Proofs.YticjhlbmdjijnaaGreatDoor
open Go.RowKit

theorem ZIs.lt {w : World} {b : Bool} {A : Option Addr} {n c : Nat} {z : Int} {k : Nat} {p : Bool} (h : ZIs w b A n c z k p) : z.natAbs < 4294967296 ^ k := by
  obtain ⟨l, hl, hv, _⟩ := h.lim
  rw [← hv]
  have h1 := Num.val_lt 4294967296 l hl.lt
  rw [hl.len] at h1
  exact Nat.lt_of_lt_of_le h1 (Nat.pow_le_pow_right (by decide) h.few)
theorem ZIs.tight {w : World} {b : Bool} {A : Option Addr} {n c : Nat} {z : Int} {k K : Nat} (h : ZIs w b A n c z k true) (hz : z.natAbs < 4294967296 ^ K) : ZIs w b A n c z K true :=
  ⟨h.ex, by rw [← h.len]; exact Num.dig_len_le (by decide) K _ hz⟩
theorem ZIs.resign {w : World} {b : Bool} {A : Option Addr} {n c : Nat} {z : Int} {k : Nat} {p : Bool} (h : ZIs w b A n c z k p) (b' : Bool) : ZIs w b' A n c (zv b' z.natAbs) k false := by
  obtain ⟨l, hl, hv, _⟩ := h.lim
  exact ⟨⟨l, hl, by rw [hv], fun h => by cases h⟩, h.few⟩
theorem pow_add_lt {x y : Int} {i j K : Nat} (hx : x.natAbs < 4294967296 ^ i) (hy : y.natAbs < 4294967296 ^ j) (hK : max i j + 1 ≤ K) : (x + y).natAbs < 4294967296 ^ K ∧ (x - y).natAbs < 4294967296 ^ K := by
  have h1 : 4294967296 ^ i ≤ 4294967296 ^ max i j := Nat.pow_le_pow_right (by decide) (Nat.le_max_left ..)
  have h2 : 4294967296 ^ j ≤ 4294967296 ^ max i j := Nat.pow_le_pow_right (by decide) (Nat.le_max_right ..)
  have h3 : 4294967296 ^ (max i j + 1) ≤ 4294967296 ^ K := Nat.pow_le_pow_right (by decide) hK
  rw [Nat.pow_succ] at h3
  omega
theorem pow_mul_lt {x y : Int} {i j K : Nat} (hx : x.natAbs < 4294967296 ^ i) (hy : y.natAbs < 4294967296 ^ j) (hK : i + j ≤ K) : (x * y).natAbs < 4294967296 ^ K := by
  have h3 : 4294967296 ^ (i + j) ≤ 4294967296 ^ K := Nat.pow_le_pow_right (by decide) hK
  rw [Nat.pow_add] at h3
  rw [Int.natAbs_mul]
  exact Nat.lt_of_lt_of_le (Nat.mul_lt_mul'' hx hy) h3
theorem radd_t {w : World} {a b : Bool} {A B : Option Addr} {n c m d : Nat} {x y : Int} {i j : Nat} {p q : Bool} {K : Nat} (ha : ZIs w a A n c x i p) (hb : ZIs w b B m d y j q) (hi : i ≤ 1048576) (hj : j ≤ 1048576) (hK : max i j + 1 ≤ K) : Calls Tryz.prog 57 #[.agg #[.bool a, .slice A n c], .agg #[.bool b, .slice B m d]] w fun e w' => ∃ b3 A3 n3 c3, e = .returned (.agg #[.bool b3, .slice A3 n3 c3]) ∧ ZIs w' b3 A3 n3 c3 (x + y) K true ∧ Below w.heap.size w w' :=
  (rzadd ha hb hi hj (Nat.le_refl _)).mono fun _e _w' ⟨b3, A3, n3, c3, h1, h2, h3⟩ => ⟨b3, A3, n3, c3, h1, h2.tight ((pow_add_lt ha.lt hb.lt hK).1), h3⟩
theorem rsub_t {w : World} {a b : Bool} {A B : Option Addr} {n c m d : Nat} {x y : Int} {i j : Nat} {p q : Bool} {K : Nat} (ha : ZIs w a A n c x i p) (hb : ZIs w b B m d y j q) (hi : i ≤ 1048576) (hj : j ≤ 1048576) (hK : max i j + 1 ≤ K) : Calls Tryz.prog 77 #[.agg #[.bool a, .slice A n c], .agg #[.bool b, .slice B m d]] w fun e w' => ∃ b3 A3 n3 c3, e = .returned (.agg #[.bool b3, .slice A3 n3 c3]) ∧ ZIs w' b3 A3 n3 c3 (x - y) K true ∧ Below w.heap.size w w' :=
  (rzsub ha hb hi hj (Nat.le_refl _)).mono fun _e _w' ⟨b3, A3, n3, c3, h1, h2, h3⟩ => ⟨b3, A3, n3, c3, h1, h2.tight ((pow_add_lt ha.lt hb.lt hK).2), h3⟩
theorem rmul_t {w : World} {a b : Bool} {A B : Option Addr} {n c m d : Nat} {x y : Int} {i j : Nat} {p q : Bool} {K : Nat} (ha : ZIs w a A n c x i p) (hb : ZIs w b B m d y j q) (hi : i ≤ 1048576) (hj : j ≤ 1048576) (hK : i + j ≤ K) : Calls Tryz.prog 79 #[.agg #[.bool a, .slice A n c], .agg #[.bool b, .slice B m d]] w fun e w' => ∃ b3 A3 n3 c3, e = .returned (.agg #[.bool b3, .slice A3 n3 c3]) ∧ ZIs w' b3 A3 n3 c3 (x * y) K true ∧ Below w.heap.size w w' :=
  (rzmul ha hb hi hj (Nat.le_refl _)).mono fun _e _w' ⟨b3, A3, n3, c3, h1, h2, h3⟩ => ⟨b3, A3, n3, c3, h1, h2.tight (pow_mul_lt ha.lt hb.lt hK), h3⟩
theorem rplain_t {w : World} {a : Bool} {A : Option Addr} {n c : Nat} {x : Int} {i : Nat} {p : Bool} {K : Nat} (ha : ZIs w a A n c x i p) (hi : i ≤ 268435456) (hK : i ≤ K) : Calls Tryz.prog 72 #[.agg #[.bool a, .slice A n c]] w fun e w' => ∃ b3 A3 n3 c3, e = .returned (.agg #[.bool b3, .slice A3 n3 c3]) ∧ ZIs w' b3 A3 n3 c3 (x) K true ∧ Below w.heap.size w w' :=
  (rzplain ha hi (Nat.le_refl _)).mono fun e w' ⟨b3, A3, n3, c3, h1, h2, h3⟩ => ⟨b3, A3, n3, c3, h1, h2.tight (Nat.lt_of_lt_of_le ha.lt (Nat.pow_le_pow_right (by decide) hK)), h3⟩
set_option maxRecDepth 100000 in
set_option maxHeartbeats 1600000 in
theorem rzdiv_zero {w : World} {a b : Bool} {A B : Option Addr} {n c m d : Nat} {x y : Int} {i j : Nat} {p q : Bool} (ha : ZIs w a A n c x i p) (hb : ZIs w b B m d y j q) (hi : i ≤ 262144) (hj : j ≤ 262144) (h0 : y = 0) : Calls Tryz.prog 55 #[.agg #[.bool a, .slice A n c], .agg #[.bool b, .slice B m d]] w fun e w' => e = .returned (.tuple #[.agg #[.bool false, .slice none 0 0], .agg #[.bool false, .slice none 0 0], .bool false]) ∧ Below w.heap.size w w' := by
  have E1 := (((((((Env.nil_ w).add ha).add hb).alloc 24 #[.bool a, .slice A n c] (g := w.heap.size) rfl rfl).alloc 24 #[.bool b, .slice B m d] (g := w.heap.size + 1) (by simp) rfl).alloc 24 #[.bool false, .slice none 0 0] (g := w.heap.size + 1 + 1) (by simp) rfl).alloc 24 #[.bool false, .slice none 0 0] (g := w.heap.size + 1 + 1 + 1) (by simp) rfl)
  obtain ⟨l1, hl1, hv1, hz1⟩ := (E1.z 1 rfl).lim
  obtain ⟨l2, hl2, hv2, hz2⟩ := (E1.z 0 rfl).lim
  have hn1 := ha.few
  have hn2 := hb.few
  have hdv := fun w0 h0 h1 => rDiv_zero A n c l1 B m d l2 w0 h0 h1 (by omega) (by omega) (by omega)
  clear hz1 hz2 hv1 hv2
  go_enter Tryz.func55, Tryz.ntmps55
  go_wp2_with fail
  refine (hdv _ hl1 hl2).mono ?_; rintro e w1 ⟨rfl, hb1⟩
  have E2 := E1.below hb1
  have kt40 := E2.cell 1 0 rfl rfl
  have kt41 := E2.cell 1 1 rfl rfl
  have kt50 := E2.cell 0 0 rfl rfl
  have kt51 := E2.cell 0 1 rfl rfl
  have ft40 := E2.frozen 1 0 rfl
  have ft41 := E2.frozen 1 1 rfl
  have ft50 := E2.frozen 0 0 rfl
  have ft51 := E2.frozen 0 1 rfl
  have E3 := (E2.st2 1 (.bool false) (.slice none 0 0) rfl rfl rfl).st2 0 (.bool false) (.slice none 0 0) rfl rfl rfl
  go_wp2_with fail
  refine bodyPost_ret (results_row2_tmp rfl _ _ (w.heap.size + 2) (w.heap.size + 3) 24 24 #[.bool false, .slice none 0 0] #[.bool false, .slice none 0 0] (0, 0) (0, 0) _ rfl (E3.b 1 rfl).is rfl (E3.b 0 rfl).is Tryz.underlying24 rfl (by kernel_rfl) (by kernel_rfl)) rfl ?_
  exact ⟨rfl, E3.bel⟩
set_option maxRecDepth 100000 in
set_option maxHeartbeats 6400000 in
theorem rzdiv {w : World} {a b : Bool} {A B : Option Addr} {n c m d : Nat} {x y : Int} {i j : Nat} {p q : Bool} {K L : Nat} (ha : ZIs w a A n c x i p) (hb : ZIs w b B m d y j q) (hi : i ≤ 16384) (hj : j ≤ 16384) (h0 : y ≠ 0) (hK : i + 1 ≤ K) (hL : j ≤ L) : Calls Tryz.prog 55 #[.agg #[.bool a, .slice A n c], .agg #[.bool b, .slice B m d]] w fun e w' => ∃ b3 A3 n3 c3 b4 A4 n4 c4, e = .returned (.tuple #[.agg #[.bool b3, .slice A3 n3 c3], .agg #[.bool b4, .slice A4 n4 c4], .bool true]) ∧ ZIs w' b3 A3 n3 c3 (wdiv x y) K true ∧ ZIs w' b4 A4 n4 c4 (wmod x y) L true ∧ Below w.heap.size w w' := by
  have hKb : (wdiv x y).natAbs < 4294967296 ^ K := by
    have h1 := ha.lt
    have h2 : 4294967296 ^ (i + 1) ≤ 4294967296 ^ K := Nat.pow_le_pow_right (by decide) hK
    rw [Nat.pow_succ] at h2
    have h3 : x.natAbs / y.natAbs ≤ x.natAbs := Nat.div_le_self ..
    have h4 := zv_abs (decide (x < 0) != decide (y < 0)) (x.natAbs / y.natAbs)
    unfold wdiv
    split <;> omega
  have hLb : (wmod x y).natAbs < 4294967296 ^ L := Nat.lt_trans (wmod_sign x y h0).1 (Nat.lt_of_lt_of_le hb.lt (Nat.pow_le_pow_right (by decide) hL))
  have HKB := Lib.hid hKb
  have HLB := Lib.hid hLb
  clear hKb hLb
  have E1 := (((((((Env.nil_ w).add ha).add hb).alloc 24 #[.bool a, .slice A n c] (g := w.heap.size) rfl rfl).alloc 24 #[.bool b, .slice B m d] (g := w.heap.size + 1) (by simp) rfl).alloc 24 #[.bool false, .slice none 0 0] (g := w.heap.size + 1 + 1) (by simp) rfl).alloc 24 #[.bool false, .slice none 0 0] (g := w.heap.size + 1 + 1 + 1) (by simp) rfl)
  obtain ⟨l1, hl1, hv1, hz1⟩ := (E1.z 1 rfl).lim
  obtain ⟨l2, hl2, hv2, hz2⟩ := (E1.z 0 rfl).lim
  have hn1 := ha.few
  have hn2 := hb.few
  have hdv := fun w0 h0 h1 => rDiv_any A n c l1 B m d l2 w0 h0 h1 (by omega) (by omega) (by omega)
  have hpt := wdiv_parts (decide (x < 0)) (decide (y < 0)) (decide (x < 0)) (decide (y < 0)) x.natAbs y.natAbs (vl l1 / vl l2) (vl l1 % vl l2) (by rw [zv_of]) (by rw [zv_of]) (by rw [hv1, hv2]) (by rw [hv1, hv2])
  rw [zv_of, zv_of] at hpt
  obtain ⟨u, hu⟩ : ∃ u, vl l1 / vl l2 = u := ⟨_, rfl⟩
  obtain ⟨v, hv⟩ : ∃ v, vl l1 % vl l2 = v := ⟨_, rfl⟩
  rw [hu, hv] at hdv hpt
  have HPT := Lib.hid hpt
  have huA : u ≤ x.natAbs := by rw [← hu, hv1]; exact Nat.div_le_self ..
  have HU := Lib.hid (Nat.lt_of_le_of_lt huA ha.lt)
  clear hz1 hz2 hv1 hv2 hpt hu hv huA
  go_enter Tryz.func55, Tryz.ntmps55
  go_wp2_with fail
  refine (hdv _ hl1 hl2).mono ?_; rintro e w1 ⟨A4, n4, c4, A5, n5, c5, rfl, hm4, hm5, ho4, ho5, hb1⟩
  have E2 := ((E1.below hb1).add (ZIs.plain (z := (u : Int)) (b := false) (k := i) ho4.ints (by simp) (by rw [← ho4.ints.len]; exact Num.dig_len_le (by decide) i _ HU.out))).add (ZIs.plain (z := (v : Int)) (b := false) (k := 4 * m) ho5.ints (by simp) hm5)
  clear hdv
  have pa0 := E2.cell 3 0 rfl rfl
  have pa1 := E2.cell 3 1 rfl rfl
  have pb0 := E2.cell 2 0 rfl rfl
  have pb1 := E2.cell 2 1 rfl rfl
  go_wp2_with fail
  refine (rplain_t (E2.z 3 rfl) (by omega) (Nat.le_refl _)).mono ?_; rintro e w2 ⟨b1, A1, n1, c1, rfl, z1, hb2⟩
  have E3 := (((E2.below hb2).add z1).alloc 24 #[.bool b1, .slice A1 n1 c1] (g := w2.heap.size) rfl rfl)
  clear pa0 pa1 pb0 pb1
  have pb0 := E3.cell 3 0 rfl rfl
  have pb1 := E3.cell 3 1 rfl rfl
  go_wp2_with fail
  refine (rplain_t (E3.z 3 rfl) (by omega) (Nat.le_refl _)).mono ?_; rintro e w3 ⟨b2, A2, n2, c2, rfl, z2, hb3⟩
  have E4 := (((E3.below hb3).add z2).alloc 24 #[.bool b2, .slice A2 n2 c2] (g := w3.heap.size) rfl rfl)
  clear pb0 pb1
  have px0 := E4.cell 1 0 rfl rfl
  have px1 := E4.cell 1 1 rfl rfl
  have py0 := E4.cell 0 0 rfl rfl
  have py1 := E4.cell 0 1 rfl rfl
  have HS1 := Lib.hid (E4.z 1 rfl).limbs.2
  have HS2 := Lib.hid (E4.z 0 rfl).limbs.2
  obtain ⟨ab, hab⟩ : ∃ ab, (!(b1 == b2)) = ab := ⟨_, rfl⟩
  go_wp2_with fail
  refine (rplain_t ((E4.z 3 rfl).resign ab) (by omega) (Nat.le_refl _)).mono ?_; rintro e w4 ⟨b6, A6, n6, c6, rfl, z6, hb4⟩
  have E5 := (((E4.below hb4).add z6).alloc 24 #[.bool b6, .slice A6 n6 c6] (g := w4.heap.size) rfl rfl)
  clear px0 px1 py0 py1
  have px0 := E5.cell 2 0 rfl rfl
  have px1 := E5.cell 2 1 rfl rfl
  have py0 := E5.cell 1 0 rfl rfl
  have py1 := E5.cell 1 1 rfl rfl
  have pq0 := E5.cell 0 0 rfl rfl
  have pq1 := E5.cell 0 1 rfl rfl
  have pa0 := E5.cell 6 0 rfl rfl
  have pa1 := E5.cell 6 1 rfl rfl
  have pb0 := E5.cell 5 0 rfl rfl
  have pb1 := E5.cell 5 1 rfl rfl
  have hv0 := (E5.z 3 rfl).zero_iff
  rcases Nat.eq_zero_or_pos v with hvz | hvz
  · obtain rfl : n5 = 0 := hv0.2 (by omega)
    clear hv0
    have hd := HPT.out.1 (by omega)
    subst hvz
    have kt40 := E5.cell 4 0 rfl rfl
    have kt41 := E5.cell 4 1 rfl rfl
    have kt50 := E5.cell 3 0 rfl rfl
    have kt51 := E5.cell 3 1 rfl rfl
    have ft40 := E5.frozen 4 0 rfl
    have ft41 := E5.frozen 4 1 rfl
    have ft50 := E5.frozen 3 0 rfl
    have ft51 := E5.frozen 3 1 rfl
    have E6 := (E5.st2 4 (.bool b6) (.slice A6 n6 c6) rfl rfl rfl).st2 3 (.bool false) (.slice none 0 0) rfl rfl rfl
    have e1 : wdiv x y = zv ab (u : Int).natAbs := by rw [hd.1, ← hab, HS1.out, HS2.out]; rfl
    have e2 : wmod x y = 0 := by rw [hd.2]; cases decide (x < 0) <;> rfl
    have HE1 := Lib.hid e1
    have HE2 := Lib.hid e2
    clear hd e1 e2
    go_wp2_with fail
    refine bodyPost_ret (results_row2_tmp rfl _ _ (w.heap.size + 2) (w.heap.size + 3) 24 24 #[.bool b6, .slice A6 n6 c6] #[.bool false, .slice none 0 0] (0, 0) (0, 0) _ rfl (E6.b 4 rfl).is rfl (E6.b 3 rfl).is Tryz.underlying24 rfl (by kernel_rfl) (by kernel_rfl)) rfl ?_
    have z7 := (E6.z 0 rfl)
    rw [← HE1.out] at z7
    rw [HE2.out]
    exact ⟨_, _, _, _, _, _, _, _, rfl, z7.tight HKB.out, ZIs.nil_ .., E6.bel⟩
  · have hvn : n5 ≠ 0 := fun h => by have := hv0.1 h; omega
    have hv5 : ((n5 : Int) == 0) = false := by simp; omega
    clear hv0
    cases hc : ab
    · subst hc
      have hbb : b1 = b2 := by cases b1 <;> cases b2 <;> simp at hab ⊢
      have hd := (HPT.out.1 (fun ⟨_, h⟩ => h (by rw [← HS1.out, ← HS2.out, hbb]))).1
      have HE1 := Lib.hid (show wdiv x y = zv false (u : Int).natAbs by rw [hd, ← HS1.out, ← HS2.out, hbb]; simp)
      subst hbb
      clear hd hab
      go_wp2_with fail
      clear px0 px1 py0 py1 pq0 pq1 pa0 pa1 pb0 pb1
      have R0 := E5.drew
      have s0 := And.intro (R0.cell 0 0 rfl rfl) (And.intro (R0.cell 0 1 rfl rfl) (And.intro (R0.cell 6 0 rfl rfl) (And.intro (R0.cell 6 1 rfl rfl) (And.intro (R0.cell 5 0 rfl rfl) (R0.cell 5 1 rfl rfl)))))
      go_region_held3 (fun w' => w'.cell? ⟨w4.heap.size, 0, none⟩ = some (.bool b6) ∧ w'.cell? ⟨w4.heap.size, 1, none⟩ = some (.slice A6 n6 c6) ∧ w'.cell? ⟨w.heap.size, 0, none⟩ = some (.bool a) ∧ w'.cell? ⟨w.heap.size, 1, none⟩ = some (.slice A n c) ∧ w'.cell? ⟨w.heap.size + 1, 0, none⟩ = some (.bool b) ∧ w'.cell? ⟨w.heap.size + 1, 1, none⟩ = some (.slice B m d))
        (with_reducible assumption)
        ((first
          | (go_at_call_has 79 (Value.slice A6 n6 c6); refine (rmul_t (K := i + 2 + j) (R0.z 0 rfl) (R0.z 5 rfl) (by omega) (by omega) (by omega)).mono ?_; rintro e w8 ⟨b8, A8, n8, c8, rfl, z8, hb8⟩; have R1 := (R0.below hb8).add z8; have s1 := And.intro (R1.cell 0 0 rfl rfl) (And.intro (R1.cell 0 1 rfl rfl) (And.intro (R1.cell 6 0 rfl rfl) (And.intro (R1.cell 6 1 rfl rfl) (And.intro (R1.cell 5 0 rfl rfl) (R1.cell 5 1 rfl rfl))))))
          | (go_at_call_has 77 (Value.slice A8 n8 c8); refine (rsub_t (K := i + 2 + j + 1) (R1.z 7 rfl) (R1.z 0 rfl) (by omega) (by omega) (by omega)).mono ?_; rintro e w9 ⟨b9, A9, n9, c9, rfl, z9, hb9⟩; have R2 := (R1.below hb9).add z9; have s2 := And.intro (R2.cell 0 0 rfl rfl) (And.intro (R2.cell 0 1 rfl rfl) (And.intro (R2.cell 6 0 rfl rfl) (And.intro (R2.cell 6 1 rfl rfl) (And.intro (R2.cell 5 0 rfl rfl) (R2.cell 5 1 rfl rfl))))); have R3 := R2.st2 4 (.bool b6) (.slice A6 n6 c6) rfl rfl rfl; have s3 := And.intro (R3.cell 0 0 rfl rfl) (And.intro (R3.cell 0 1 rfl rfl) (And.intro (R3.cell 6 0 rfl rfl) (And.intro (R3.cell 6 1 rfl rfl) (And.intro (R3.cell 5 0 rfl rfl) (R3.cell 5 1 rfl rfl))))); have R4 := R3.st2 3 (.bool b9) (.slice A9 n9 c9) rfl rfl rfl; have s4 := And.intro (R4.cell 0 0 rfl rfl) (And.intro (R4.cell 0 1 rfl rfl) (And.intro (R4.cell 6 0 rfl rfl) (And.intro (R4.cell 6 1 rfl rfl) (And.intro (R4.cell 5 0 rfl rfl) (R4.cell 5 1 rfl rfl))))); have kt40 := R2.cell 4 0 rfl rfl; have kt41 := R2.cell 4 1 rfl rfl; have kt50 := R2.cell 3 0 rfl rfl; have kt51 := R2.cell 3 1 rfl rfl; have ft40 := R2.frozen 4 0 rfl; have ft41 := R2.frozen 4 1 rfl; have ft50 := R2.frozen 3 0 rfl; have ft51 := R2.frozen 3 1 rfl; have lt50 := R3.cell 3 0 rfl rfl; have lt51 := R3.cell 3 1 rfl rfl; have mt50 := R3.frozen 3 0 rfl; have mt51 := R3.frozen 3 1 rfl)))
      go_wp2_with fail
      refine bodyPost_ret (results_row2_tmp rfl _ _ (w.heap.size + 2) (w.heap.size + 3) 24 24 #[.bool b6, .slice A6 n6 c6] #[.bool b9, .slice A9 n9 c9] (0, 0) (0, 0) _ rfl (R4.b 4 rfl).is rfl (R4.b 3 rfl).is Tryz.underlying24 rfl (by kernel_rfl) (by kernel_rfl)) rfl ?_
      have zq := (R4.z 2 rfl)
      have zr := (R4.z 0 rfl)
      rw [← HE1.out] at zq
      have hw : x - wdiv x y * y = wmod x y := rfl
      rw [← HE1.out, hw] at zr
      exact ⟨_, _, _, _, _, _, _, _, rfl, zq.tight HKB.out, zr.tight HLB.out, R4.bel⟩
    · subst hc
      have hbb : (b1 == b2) = false := by cases b1 <;> cases b2 <;> simp at hab ⊢
      have hd := (HPT.out.2 ⟨hvz, by rw [← HS1.out, ← HS2.out]; simpa using hbb⟩).1
      have HE1 := Lib.hid (show wdiv x y = zv true (u : Int).natAbs - 1 by rw [hd, ← HS1.out, ← HS2.out]; unfold bne; rw [hbb]; rfl)
      clear hd hab
      have z10 := fun (g : Nat) (w0 : World) (hg : g = w0.heap.size) => (ZIs.plain (w := w0.alloc (.cells #[.int .u32 1] 82)) (b := false) (z := 1) (k := 1) (c := 1) (A := some ⟨g, 0, none⟩) (n := 1) (by rw [show lmb (Int.natAbs 1) = [1] from lmb_lit [1] (by decide) (by decide)]; exact Ints.one .u32 4294967296 82 1 rfl (by decide) hg) (by decide) (by decide))
      go_wp2_with fail
      refine (rsub_t (K := i + 2) ((E5.other _).z 0 rfl) (z10 _ _ (by first | rfl | simp)) (by omega) (by omega) (by omega)).mono ?_; rintro e w7 ⟨b7, A7, n7, c7, rfl, z7, hb7⟩
      have E6 := ((E5.other _).below hb7).add z7
      have dq0 := E6.cell 0 0 rfl rfl
      have dq1 := E6.cell 0 1 rfl rfl
      have eq0 := E6.frozen 0 0 rfl
      have eq1 := E6.frozen 0 1 rfl
      have E7 := E6.st2 0 (.bool b7) (.slice A7 n7 c7) rfl rfl rfl
      go_wp2_with fail
      clear px0 px1 py0 py1 pq0 pq1 pa0 pa1 pb0 pb1
      have R0 := E7.drew
      have s0 := And.intro (R0.cell 0 0 rfl rfl) (And.intro (R0.cell 0 1 rfl rfl) (And.intro (R0.cell 6 0 rfl rfl) (And.intro (R0.cell 6 1 rfl rfl) (And.intro (R0.cell 5 0 rfl rfl) (R0.cell 5 1 rfl rfl)))))
      go_region_held3 (fun w' => w'.cell? ⟨w4.heap.size, 0, none⟩ = some (.bool b7) ∧ w'.cell? ⟨w4.heap.size, 1, none⟩ = some (.slice A7 n7 c7) ∧ w'.cell? ⟨w.heap.size, 0, none⟩ = some (.bool a) ∧ w'.cell? ⟨w.heap.size, 1, none⟩ = some (.slice A n c) ∧ w'.cell? ⟨w.heap.size + 1, 0, none⟩ = some (.bool b) ∧ w'.cell? ⟨w.heap.size + 1, 1, none⟩ = some (.slice B m d))
        (with_reducible assumption)
        ((first
          | (go_at_call_has 79 (Value.slice A7 n7 c7); refine (rmul_t (K := i + 2 + j) (R0.z 0 rfl) (R0.z 6 rfl) (by omega) (by omega) (by omega)).mono ?_; rintro e w8 ⟨b8, A8, n8, c8, rfl, z8, hb8⟩; have R1 := (R0.below hb8).add z8; have s1 := And.intro (R1.cell 0 0 rfl rfl) (And.intro (R1.cell 0 1 rfl rfl) (And.intro (R1.cell 6 0 rfl rfl) (And.intro (R1.cell 6 1 rfl rfl) (And.intro (R1.cell 5 0 rfl rfl) (R1.cell 5 1 rfl rfl))))))
          | (go_at_call_has 77 (Value.slice A8 n8 c8); refine (rsub_t (K := i + 2 + j + 1) (R1.z 8 rfl) (R1.z 0 rfl) (by omega) (by omega) (by omega)).mono ?_; rintro e w9 ⟨b9, A9, n9, c9, rfl, z9, hb9⟩; have R2 := (R1.below hb9).add z9; have s2 := And.intro (R2.cell 0 0 rfl rfl) (And.intro (R2.cell 0 1 rfl rfl) (And.intro (R2.cell 6 0 rfl rfl) (And.intro (R2.cell 6 1 rfl rfl) (And.intro (R2.cell 5 0 rfl rfl) (R2.cell 5 1 rfl rfl))))); have R3 := R2.st2 4 (.bool b7) (.slice A7 n7 c7) rfl rfl rfl; have s3 := And.intro (R3.cell 0 0 rfl rfl) (And.intro (R3.cell 0 1 rfl rfl) (And.intro (R3.cell 6 0 rfl rfl) (And.intro (R3.cell 6 1 rfl rfl) (And.intro (R3.cell 5 0 rfl rfl) (R3.cell 5 1 rfl rfl))))); have R4 := R3.st2 3 (.bool b9) (.slice A9 n9 c9) rfl rfl rfl; have s4 := And.intro (R4.cell 0 0 rfl rfl) (And.intro (R4.cell 0 1 rfl rfl) (And.intro (R4.cell 6 0 rfl rfl) (And.intro (R4.cell 6 1 rfl rfl) (And.intro (R4.cell 5 0 rfl rfl) (R4.cell 5 1 rfl rfl))))); have kt40 := R2.cell 4 0 rfl rfl; have kt41 := R2.cell 4 1 rfl rfl; have kt50 := R2.cell 3 0 rfl rfl; have kt51 := R2.cell 3 1 rfl rfl; have ft40 := R2.frozen 4 0 rfl; have ft41 := R2.frozen 4 1 rfl; have ft50 := R2.frozen 3 0 rfl; have ft51 := R2.frozen 3 1 rfl; have lt50 := R3.cell 3 0 rfl rfl; have lt51 := R3.cell 3 1 rfl rfl; have mt50 := R3.frozen 3 0 rfl; have mt51 := R3.frozen 3 1 rfl)))
      go_wp2_with fail
      refine bodyPost_ret (results_row2_tmp rfl _ _ (w.heap.size + 2) (w.heap.size + 3) 24 24 #[.bool b7, .slice A7 n7 c7] #[.bool b9, .slice A9 n9 c9] (0, 0) (0, 0) _ rfl (R4.b 4 rfl).is rfl (R4.b 3 rfl).is Tryz.underlying24 rfl (by kernel_rfl) (by kernel_rfl)) rfl ?_
      have zq := (R4.z 2 rfl)
      have zr := (R4.z 0 rfl)
      rw [← HE1.out] at zq
      have hw : x - wdiv x y * y = wmod x y := rfl
      rw [← HE1.out, hw] at zr
      exact ⟨_, _, _, _, _, _, _, _, rfl, zq.tight HKB.out, zr.tight HLB.out, R4.bel⟩

end Go.Proofs.YticjhlbmdjijnaaGreatDoor

/- The contracts of package whole: Text, Bytes, Parse, Read, said of whole numbers. No condition but the reach of a slice. -/
namespace Go.Proofs.YticjhlbmdjijnaaGreatDoor
open Go.RowKit

section
variable {w : World} {a : Bool} {A : Option Addr} {n c : Nat} {x : Int} {i : Nat} {p : Bool}
theorem ztext (ha : ZIs w a A n c x i p) (hi : i ≤ 1048576) : Calls Tryz.prog 88 #[.agg #[.bool a, .slice A n c]] w fun e w' => e = .returned (.string (str (ztx x))) ∧ Below w.heap.size w w' := by
  obtain ⟨l, hl, hv, hx⟩ := ha.lim
  have := ha.few
  have h := wtext_any a A n c l w hl (by omega)
  rw [hx] at h
  exact h
theorem zbytes (ha : ZIs w a A n c x i p) (hi : i ≤ 1048576) : Calls Tryz.prog 87 #[.agg #[.bool a, .slice A n c]] w fun e w' => ∃ A2 m c2, e = .returned (.slice A2 m c2) ∧ m ≤ 4 * i + 3 ∧ OwnB w' w.heap.size A2 m c2 (zenc x) ∧ Below w.heap.size w w' := by
  obtain ⟨l, hl, hv, hx⟩ := ha.lim
  have := ha.few
  have h := wbytes_any a A n c l w hl (by omega)
  rw [hx] at h
  exact h.mono fun e w' ⟨A2, m, c2, h1, h2, h3, h4⟩ => ⟨A2, m, c2, h1, by omega, h3, h4⟩
end
theorem zparse (l : List Nat) (hl : ∀ x ∈ l, x < 256) (w : World) (hlen : l.length ≤ 9223372036854775807) :
    Calls Tryz.prog 62 #[.string (str l)] w fun e w' => ∃ b3 A3 n3, e = .returned (.tuple #[.agg #[.bool b3, .slice A3 n3 n3], .bool (zok l)]) ∧ ZIs w' b3 A3 n3 n3 (zpv l) 80002 true ∧ Below w.heap.size w w' := by
  by_cases h : ZReads l
  · rw [zok_yes h, zpv_yes h]
    refine (wparse_ok l hl w h).mono ?_
    rintro e w' ⟨A, m, rfl, hm, ho, hb⟩
    exact ⟨_, _, _, rfl, ZIs.of_own ho rfl hm, hb⟩
  · rw [zok_no h, zpv_no h]
    refine (wparse_bad l hl w hlen h).mono ?_
    rintro e w' ⟨rfl, hb⟩
    exact ⟨_, _, _, rfl, ZIs.nil_ .., hb⟩
theorem zread (A : Option Addr) (n c : Nat) (l : List Nat) (w : World) (hr : Byt w A n c l) (hn : n ≤ 70368744177664) :
    Calls Tryz.prog 84 #[.slice A n c] w fun e w' => ∃ b3 A3 n3 A4 m4 c4, e = .returned (.tuple #[.agg #[.bool b3, .slice A3 n3 n3], .slice A4 m4 c4, .bool (zrok l)]) ∧ m4 ≤ n ∧ ZIs w' b3 A3 n3 n3 (zrv l) 4096 true ∧ Byt w' A4 m4 c4 (zrl l) ∧ Below w.heap.size w w' := by
  by_cases h : ZBytes l
  · rw [zrok_yes h, zrv_yes h, zrl_yes h]
    refine (wread_ok A n c l w hr hn h).mono ?_
    rintro e w' ⟨A2, m, A3, m3, c3, rfl, hm, hm3, ho, ho3, hb⟩
    exact ⟨_, _, _, _, _, _, rfl, hm3, ZIs.of_own ho rfl hm, ho3.ints, hb⟩
  · rw [zrok_no h, zrv_no h, zrl_no h]
    refine (wread_bad A n c l w hr hn h).mono ?_
    rintro e w' ⟨rfl, hb⟩
    exact ⟨_, _, _, _, _, _, rfl, Nat.zero_le _, ZIs.nil_ .., Ints.nil_ .., hb⟩
theorem zsame_true {w : World} {a b : Bool} {A B : Option Addr} {n c m d : Nat} {x y : Int} {i j : Nat} (ha : ZIs w a A n c x i true) (hb : ZIs w b B m d y j true) (hi : i ≤ 1073741824) (hj : j ≤ 1073741824) (he : x = y) :
    Calls Tryz.prog 17 #[.agg #[.bool a, .slice A n c], .agg #[.bool b, .slice B m d]] w fun e w' => e = .returned (.bool true) ∧ Below w.heap.size w w' :=
  (zsame ha hb hi hj).mono fun e w' ⟨h1, h2⟩ => ⟨by rw [h1, decide_eq_true he], h2⟩
theorem zcmp_is {w : World} {a b : Bool} {A B : Option Addr} {n c m d : Nat} {x y : Int} {i j : Nat} {p q : Bool} (ha : ZIs w a A n c x i p) (hb : ZIs w b B m d y j q) (hi : i ≤ 268435456) (hj : j ≤ 268435456) (z : Int) (hz : zcmp x y = z) :
    Calls Tryz.prog 58 #[.agg #[.bool a, .slice A n c], .agg #[.bool b, .slice B m d]] w fun e w' => e = .returned (.int .i64 z) ∧ Below w.heap.size w w' := by
  rw [← hz]; exact zcmp_ ha hb hi hj
theorem rzcmp_is {w : World} {a b : Bool} {A B : Option Addr} {n c m d : Nat} {x y : Int} {i j : Nat} {p q : Bool} (ha : ZIs w a A n c x i p) (hb : ZIs w b B m d y j q) (hi : i ≤ 1048576) (hj : j ≤ 1048576) (z : Int) (hz : zcmp x y = z) :
    Calls Tryz.prog 74 #[.agg #[.bool a, .slice A n c], .agg #[.bool b, .slice B m d]] w fun e w' => e = .returned (.int .i64 z) ∧ Below w.heap.size w w' := by
  rw [← hz]; exact rzcmp ha hb hi hj
end Go.Proofs.YticjhlbmdjijnaaGreatDoor
