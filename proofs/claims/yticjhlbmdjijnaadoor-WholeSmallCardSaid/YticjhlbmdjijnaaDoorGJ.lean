/- Texts of several parts in one: NatJ. Each says what it proves; no condition but those named there. -/
import Derived.Test.YticjhlbmdjijnaaDoorG2
import Derived.Test.YticjhlbmdjijnaaDoorG1
import Derived.Test.YticjhlbmdjijnaaDoorShelf
import Derived.Deep.RegionHeld3
import Derived.Sort.AtCall
/- The contract of nat.long: quotient and rest of a number by one of two limbs at least. No condition but the numbers' forms. -/
namespace Go.Proofs.YticjhlbmdjijnaaDoor
open Go.RowKit

theorem bitLen_two (n : Nat) : ∀ x, 0 < x → x < n → x < 2 ^ 64 → 2 ^ (Lib.bitLen x - 1) ≤ x ∧ x < 2 ^ Lib.bitLen x ∧ 1 ≤ Lib.bitLen x := by
  induction n with
  | zero => intro x _ h; omega
  | succ n ih =>
    intro x h0 hn h64
    have e := Lib.bitLen_half x (by omega) h64
    rcases Nat.lt_or_ge x 2 with h | h
    · obtain rfl : x = 1 := by omega
      rw [e, show Lib.bitLen (1 / 2) = 0 from rfl]
      simp
    · obtain ⟨h1, h2, h3⟩ := ih (x / 2) (by omega) (by omega) (by omega)
      have p1 : 2 ^ (Lib.bitLen (x / 2)) = 2 ^ (Lib.bitLen (x / 2) - 1) * 2 := by rw [← Nat.pow_succ]; congr 1; omega
      have p2 : 2 ^ (Lib.bitLen (x / 2) + 1) = 2 ^ (Lib.bitLen (x / 2)) * 2 := Nat.pow_succ ..
      rw [e, show 1 + Lib.bitLen (x / 2) - 1 = Lib.bitLen (x / 2) by omega, Nat.add_comm 1]
      omega
theorem lz_fact (tp : Nat) (h0 : 0 < tp) (h : tp < 4294967296) : ∃ s : Nat, s ≤ 31 ∧ 32 - (Lib.bitLen tp : Int) = (s : Int) ∧ 2147483648 ≤ tp * 2 ^ s ∧ (tp + 1) * 2 ^ s ≤ 4294967296 := by
  obtain ⟨h1, h2, h3⟩ := bitLen_two (tp + 1) tp h0 (by omega) (by omega)
  have h4 : Lib.bitLen tp ≤ 32 := by
    rcases Nat.lt_or_ge 32 (Lib.bitLen tp) with h5 | h5
    · have := Nat.pow_le_pow_right (n := 2) (by omega) (show 32 ≤ Lib.bitLen tp - 1 by omega)
      omega
    · exact h5
  refine ⟨32 - Lib.bitLen tp, by omega, by omega, ?_, ?_⟩
  · have := Nat.mul_le_mul_right (2 ^ (32 - Lib.bitLen tp)) h1
    rw [← Nat.pow_add, show Lib.bitLen tp - 1 + (32 - Lib.bitLen tp) = 31 by omega] at this
    exact this
  · have := Nat.mul_le_mul_right (2 ^ (32 - Lib.bitLen tp)) h2
    rw [← Nat.pow_add, show Lib.bitLen tp + (32 - Lib.bitLen tp) = 32 by omega] at this
    exact this
/-- The divisor shifted: its limbs, the highest bit set. -/
theorem norm_div (l o : List Nat) (n s tp : Nat) (hl : l.length = n) (hll : ∀ x ∈ l, x < 4294967296) (hol : ∀ x ∈ o, x < 4294967296) (ho : o.length = n + 1) (hn : 1 ≤ n) (ht : l[n - 1]? = some tp) (h1 : 2147483648 ≤ tp * 2 ^ s) (h2 : (tp + 1) * 2 ^ s ≤ 4294967296)
    (hv : vl o = vl l * 2 ^ s) : vl (o.take n) = vl l * 2 ^ s ∧ (∃ t1, (o.take n)[n - 1]? = some t1 ∧ 2147483648 ≤ t1) ∧ 2147483648 * 4294967296 ^ (n - 1) ≤ vl l * 2 ^ s ∧ vl l * 2 ^ s < 4294967296 ^ n := by
  have hp : 4294967296 ^ n = 4294967296 ^ (n - 1) * 4294967296 := by rw [← Nat.pow_succ]; congr 1; omega
  have e1 := vl_take_succ ht
  rw [show n - 1 + 1 = n by omega, List.take_of_length_le (by omega)] at e1
  have e2 : vl (l.take (n - 1)) < 4294967296 ^ (l.take (n - 1)).length := Num.val_lt 4294967296 (l.take (n - 1)) (fun x hx => hll x (List.mem_of_mem_take hx))
  rw [List.length_take, Nat.min_eq_left (by omega)] at e2
  have lo : 2147483648 * 4294967296 ^ (n - 1) ≤ vl l * 2 ^ s := by
    have a1 := Nat.mul_le_mul_left (4294967296 ^ (n - 1)) h1
    rw [e1, Nat.add_mul, Nat.mul_assoc]
    omega
  have hi : vl l * 2 ^ s < 4294967296 ^ n := by
    have a1 : vl l < 4294967296 ^ (n - 1) * (tp + 1) := by rw [Nat.mul_add, Nat.mul_one, e1]; omega
    have a2 := Nat.mul_lt_mul_of_pos_right a1 (Nat.two_pow_pos s)
    have a3 := Nat.mul_le_mul_left (4294967296 ^ (n - 1)) h2
    rw [Nat.mul_assoc] at a2
    rw [hp]
    omega
  obtain ⟨z, hz⟩ : ∃ z, o[n]? = some z := ⟨_, List.getElem?_eq_getElem (by omega)⟩
  have e3 := vl_take_succ hz
  rw [List.take_of_length_le (by omega)] at e3
  have hz0 : z = 0 := by
    rcases Nat.eq_zero_or_pos z with h | h
    · exact h
    · have := Nat.mul_le_mul_left (4294967296 ^ n) h
      omega
  rw [hz0, Nat.mul_zero, Nat.add_zero] at e3
  refine ⟨by omega, ?_, lo, hi⟩
  obtain ⟨t1, ht1⟩ : ∃ t1, (o.take n)[n - 1]? = some t1 := ⟨_, List.getElem?_eq_getElem (by simp; omega)⟩
  refine ⟨t1, ht1, ?_⟩
  have e4 := vl_take_succ ht1
  rw [show n - 1 + 1 = n by omega, List.take_of_length_le (l := o.take n) (by simp; omega)] at e4
  have e5 : vl ((o.take n).take (n - 1)) < 4294967296 ^ ((o.take n).take (n - 1)).length := Num.val_lt 4294967296 _ (fun x hx => hol x (List.mem_of_mem_take (List.mem_of_mem_take hx)))
  rw [List.length_take, List.length_take, Nat.min_eq_left (by omega)] at e5
  rcases Nat.lt_or_ge t1 2147483648 with h | h
  · have := Nat.mul_le_mul_left (4294967296 ^ (n - 1)) (show t1 + 1 ≤ 2147483648 by omega)
    rw [Nat.mul_add, Nat.mul_one] at this
    omega
  · exact h
theorem longs_start (l u q : List Nat) (V n n' s : Nat) (hl : l.length = n) (hll : ∀ x ∈ l, x < 4294967296) (hs : s ≤ 31) (hu : u.length = n + 1) (hv : vl u = vl l * 2 ^ s) (hq : q.length = n - n' + 1) (h1 : 1 ≤ n') (hn : n' ≤ n) (hV : 2147483648 * 4294967296 ^ (n' - 1) ≤ V) :
    Longs (vl l * 2 ^ s) V n' (n - n' + 1) u q := by
  have e1 : u.take (n - n' + 1 + n') = u := List.take_of_length_le (by omega)
  have e2 : q.drop (n - n' + 1) = [] := List.drop_eq_nil_of_le (by omega)
  refine ⟨by rw [e1, e2, hv]; simp [vl, Num.val], ?_⟩
  rw [e1, hv]
  have a1 : vl l < 4294967296 ^ n := by rw [← hl]; exact Num.val_lt _ l hll
  have a2 := Nat.mul_lt_mul_of_pos_right a1 (Nat.two_pow_pos s)
  have a3 := Nat.mul_le_mul_left (4294967296 ^ n) (Nat.pow_le_pow_right (n := 2) (by omega) hs)
  have a4 := Nat.mul_le_mul_right (4294967296 ^ (n - n' + 1)) hV
  rw [Nat.mul_assoc, ← Nat.pow_add, show n' - 1 + (n - n' + 1) = n by omega] at a4
  omega

set_option maxRecDepth 100000 in
set_option maxHeartbeats 1600000 in
theorem long_any (A A' : Option Addr) (n c n' c' : Nat) (l l' : List Nat) (w : World) (hr : Lim w A n c l) (hr' : Lim w A' n' c' l') (hn : n ≤ 549755813888) (h2 : 2 ≤ n') (hle : n' ≤ n) (tp : Nat) (htp : l'[n' - 1]? = some tp) (htp0 : 0 < tp) :
    Calls Tryd.prog 41 #[.slice A n c, .slice A' n' c'] w fun e w' => ∃ A2 m A3 m3, e = .returned (.tuple #[.slice A2 m m, .slice A3 m3 m3]) ∧ OwnL w' w.heap.size A2 m m (lmb (vl l / vl l')) ∧ OwnL w' w.heap.size A3 m3 m3 (lmb (vl l % vl l')) ∧
      m ≤ n ∧ m3 ≤ n' ∧ Below w.heap.size w w' := by
  have hlen := hr.len
  have hlen' := hr'.len
  obtain ⟨b', o', tp', rfl, hb', ht', htl, hct⟩ := hr'.get (k := n' - 1) (by omega)
  rw [ht'] at htp
  obtain rfl : tp' = tp := Option.some.inj htp
  obtain ⟨s, hs31, hse, hs1, hs2⟩ := lz_fact tp' htp0 htl
  have hlz := Tryd.bits_LeadingZeros32 (tp' : Int) w (by omega) (by omega)
  rw [Int.toNat_natCast, hse] at hlz
  obtain ⟨n1, hn1⟩ : ∃ n1, n' - 1 = n1 := ⟨_, rfl⟩
  have e1 : (n' : Int) - 1 = (n1 : Int) := by omega
  have b1 : (n1 : Int) < n' := by omega
  rw [hn1] at hct
  have HT := Lib.hid ht'
  have hs0 : (0 : Int) ≤ (n' : Int) := by omega
  have hs1' : (n' : Int) ≤ ((n' + 1 : Nat) : Int) := by omega
  have hs2' : (n' : Int) ≤ (n' : Int) + 1 := by omega
  clear ht' hse
  go_enter Tryd.func41, Tryd.ntmps41
  go_wp2_with fail
  refine hlz.mono ?_; rintro e w1 ⟨rfl, rfl⟩
  go_wp2_with fail
  go_region_held3 (fun _ => True) (trivial)
    ((first
      | (go_at_call_has 59 (Value.slice A n c); refine (shift_any A n c l _ ?_ hn s (by omega)).mono ?_; (exact hr.drew); rintro e w2 ⟨A2, u, rfl, hou, hvu, hb2⟩)
      | (go_at_call_has 59 (Value.slice (some (Addr.mk b' o' none)) n' c'); refine (shift_any (some ⟨b', o', none⟩) n' c' l' _ ?_ (by omega) s (by omega)).mono ?_; (exact (hr'.drew).below hb2); rintro e w3 ⟨A3, vv, rfl, hov, hvv, hb3⟩)))
  obtain ⟨gu, _, rfl, hgu, hgus, _⟩ := hou.get (k := 0) (by omega)
  obtain ⟨gv, _, rfl, hgv, hgvs, _⟩ := hov.get (k := 0) (by omega)
  have hgu' : w1.heap.size ≤ gu := hgu
  have hb2' : Below w1.heap.size w1 w2 := (Below.refl _ _).drew.trans hb2
  have hb3' := below_step hb2' hb3 hb2'.size
  obtain ⟨hvt, ⟨t1, ht1, ht1h⟩, hlo, hhi⟩ := norm_div l' vv n' s tp' hlen' hr'.lt hov.lt hov.len (by omega) HT.out hs1 hs2 hvv
  have hvL : Lim w3 (some ⟨gv, 0, none⟩) n' (n' + 1) (vv.take n') := hov.ints.take (by omega) (by omega)
  have houL : OwnL w3 w1.heap.size (some ⟨gu, 0, none⟩) (n + 1) (n + 1) u := hou.below hb3
  generalize vv.take n' = v at *
  obtain ⟨K, hK⟩ : ∃ K, n - n' + 1 = K := ⟨_, rfl⟩
  have eK : (n : Int) - n' + 1 = (K : Int) := by omega
  go_wp2_with (refine wpList_mkL rfl _ _ rfl K rfl rfl rfl rfl (by omega) w1.heap.size hb3'.size ?_; intro w4 hoq hg4)
  have hb4 := below_none hb3' hg4 hb3'.size
  have hV0 : 0 < vl l' * 2 ^ s := Nat.lt_of_lt_of_le (Nat.mul_pos (by omega) (Nat.pow_pos (by omega))) hlo
  have hL0 := longs_start l u (List.replicate K 0) (vl l' * 2 ^ s) n n' s hlen hr.lt hs31 houL.len hvu (by simp [hK]) (by omega) hle hlo
  have hg3 : gv < w3.heap.size := hgvs
  have hgu3 : gu < w3.heap.size := (houL.lt_ _ rfl).2
  have hguv : gu ≠ gv := by omega
  rw [hK] at hL0
  have hgqb : w1.heap.size ≤ w3.heap.size := hb3'.size
  have hvq := hvL.below (hg4 |> fun _ => ⟨hg4.os, hg4.tape, hg4.output, hg4.size, fun k hk => hg4.block k hk (by simp)⟩)
  have huq := houL.kept hg4 (by simp)
  have HL0 : Hid (Longs (vl l * 2 ^ s) (vl l' * 2 ^ s) n' K u (List.replicate K 0)) := hL0
  clear hL0
  go_loopw [10] (fun jv wr => ∃ J : Nat, J ≤ K ∧ jv = .int .i64 ((J : Int) - 1) ∧ ∃ u q, OwnL wr w1.heap.size (some ⟨gu, 0, none⟩) (n + 1) (n + 1) u ∧ OwnL wr w1.heap.size (some ⟨w3.heap.size, 0, none⟩) K K q ∧ Lim wr (some ⟨gv, 0, none⟩) n' (n' + 1) v ∧
      Hid (Longs (vl l * 2 ^ s) (vl l' * 2 ^ s) n' J u q) ∧ Hid (J < K → u[J + n']? = some 0) ∧ Below w1.heap.size w1 wr) (fun jv _ => (intOf jv + 1).toNat)
  case atStart =>
    refine ⟨K, Nat.le_refl _, rfl, u, _, huq, hoq, hvq, HL0, ?_, hb4⟩
    show _ → _
    intro h; omega
  case round =>
    obtain ⟨J, hJ, rfl, u, q, hou, hoq, hvL, HL, HZ, hb⟩ := hrel
    have hjn : J + n' ≤ n + 1 := by omega
    have hulen := hou.len
    cases J with
    | zero =>
      obtain ⟨hq, hrest⟩ := HL.out.fin
      have hu0 := HZ.out (by omega)
      rw [Nat.zero_add] at hu0
      obtain ⟨Y, hY⟩ : ∃ Y, vl l % vl l' = Y := ⟨_, rfl⟩
      rw [hY] at hrest
      have hYn : Y < 4294967296 ^ n' := by
        have h1 : vl l' < 4294967296 ^ n' := by rw [← hlen']; exact Num.val_lt _ l' hr'.lt
        have h2 : vl l % vl l' < vl l' := Nat.mod_lt _ (Nat.pos_of_mul_pos_right hV0)
        omega
      have HD : Hid (∀ (k x y z D : Nat), k < n' → u[k]? = some x → u[k + 1]? = some y → (y * 4294967296 + x) / 2 ^ s = D → D % 4294967296 = z → Y % 4294967296 ^ (k + 1) = Y % 4294967296 ^ k + 4294967296 ^ k * z) := by
        show ∀ (k x y z D : Nat), _
        intro k x y z D hk hx hy hD hz
        have e1 := vl_take_succ hu0
        simp only [hrest, Nat.mul_zero, Nat.add_zero] at e1
        have e2 := down_limb (u.take (n' + 1)) s k x y (by omega) (fun x hx => hou.lt x (List.mem_of_mem_take hx)) (by rw [List.getElem?_take, if_pos (by omega)]; exact hx) (by rw [List.getElem?_take, if_pos (by omega)]; exact hy)
        rw [e1, Nat.mul_div_cancel _ (Nat.two_pow_pos s), hD, hz] at e2
        rw [Nat.mod_pow_succ, e2]
      have HQ := Lib.hid hq
      have HY := Lib.hid hY
      have HYn := Lib.hid hYn
      clear hq hrest hu0 hY hYn HL HZ
      go_wp2_with (refine wpList_mkL rfl _ _ rfl n' rfl rfl rfl rfl (by omega) w1.heap.size hb.size ?_; intro w5 hor hg5)
      have hou5 := hou.kept hg5 (by simp)
      have hoq5 := hoq.kept hg5 (by simp)
      have hb5 := below_none hb hg5 hb.size
      have hgu5 : gu < wr.heap.size := (hou.lt_ _ rfl).2
      have hgq5 : w3.heap.size < wr.heap.size := (hoq.lt_ _ rfl).2
      have hwr := hb.size
      clear hlz hct
      have ht2 := fun (r : List Nat) (w0 : World) (h0 : Lim w0 (some ⟨wr.heap.size, 0, none⟩) n' n' r) => trim_any (some ⟨wr.heap.size, 0, none⟩) n' n' r w0 h0 (by omega)
      go_loopw [69] (fun i wk => ∃ k : Nat, k ≤ n' ∧ i = .int .i64 k ∧ ∃ r, OwnL wk w1.heap.size (some ⟨gu, 0, none⟩) (n + 1) (n + 1) u ∧ OwnL wk w1.heap.size (some ⟨w3.heap.size, 0, none⟩) K K q ∧ OwnL wk w1.heap.size (some ⟨wr.heap.size, 0, none⟩) n' n' r ∧
        Hid (vl (r.take k) = Y % 4294967296 ^ k) ∧ Below w1.heap.size w1 wk) (fun i _ => n' - (intOf i).toNat)
      case atStart =>
        refine ⟨0, by omega, rfl, _, hou5, hoq5, hor, ?_, hb5⟩
        show _ = _
        simp [vl, Num.val, Nat.mod_one]
      case round =>
        obtain ⟨k, hk, rfl, r, houk, hoqk, hork, HR, hbk⟩ := hrel
        by_cases hlt : k < n'
        · obtain ⟨g1, x, he, _, _, hx, hxl, hcx, _⟩ := houk.get (k := k) (by omega)
          cases he
          obtain ⟨k1, hk1⟩ : ∃ k1, k + 1 = k1 := ⟨_, rfl⟩
          obtain ⟨g1, y, he, _, _, hy, hyl, hcy, _⟩ := houk.get (k := k1) (by omega)
          cases he
          obtain ⟨g1, z0, he, _, _, _, _, hcz, hfz⟩ := hork.get (k := k) (by omega)
          cases he
          obtain ⟨V, hV⟩ : ∃ V, y * 4294967296 + x = V := ⟨_, rfl⟩
          have hor := u64_or_nat (y * 4294967296) x (by omega) (by omega)
          rw [nat_join 32 _ _ (by omega) (by omega), hV] at hor
          replace hor : bits .or .u64 ((y : Int) * 4294967296) (x : Int) = (V : Int) := hor
          obtain ⟨D, hD⟩ : ∃ D, V / 2 ^ s = D := ⟨_, rfl⟩
          have hDi : (V : Int) / 2 ^ s = (D : Int) := by rw [← hD]; simp
          have hDl : D < 18446744073709551616 := by rw [← hD]; exact Nat.lt_of_le_of_lt (Nat.div_le_self _ _) (by omega)
          obtain ⟨z, hz⟩ : ∃ z, D % 4294967296 = z := ⟨_, rfl⟩
          have hzi : (D : Int) % 4294967296 = (z : Int) := by omega
          have hzl : z < 4294967296 := by omega
          have HS := Lib.hid (HD.out k x y z D hlt hx (by rw [hk1]; exact hy) (by rw [hV]; exact hD) hz)
          have b1 : (k1 : Int) < (n : Int) + 1 := by omega
          have b2 : (k : Int) < (n : Int) + 1 := by omega
          have b3 : (k : Int) < (n' : Int) := by omega
          have s1 : IntKind.i64.wrap ((k : Int) + 1) = (k1 : Int) := by rw [IntWalk.i64_in _ (by omega)]; omega
          have s2 : (k : Int) + 1 = (k1 : Int) := by omega
          have HK := Lib.hid hk1
          clear hx hy hV hD hz hk1
          go_wp2_with fail
          go_region
          go_wp2_with fail
          refine ⟨⟨k + 1, by omega, by go_num, _, (houk.setCell (by intro ad he; cases he; simp; omega) _).drew, (hoqk.setCell (by intro ad he; cases he; simp; omega) _).drew, (hork.stored k z hzl).drew, ?_, (hbk.setCell hwr _).drew⟩, by simp [intOf]; omega⟩
          show _ = _
          rw [vl_take_set _ (by rw [hork.len]; exact hlt), HR.out, HS.out]
        · obtain rfl : k = n' := by omega
          have hfin : vl r = vl l % vl l' := by
            have h1 := HR.out
            rw [List.take_of_length_le (by rw [hork.len]; omega), Nat.mod_eq_of_lt HYn.out] at h1
            rw [h1, HY.out]
          have HF := Lib.hid hfin
          have ht1 := fun w0 h0 => trim_any (some ⟨w3.heap.size, 0, none⟩) K K q w0 h0 (by omega)
          clear hfin
          go_wp2_with fail
          refine (ht1 _ hoqk.ints).mono ?_; rintro e w6 ⟨A6, m6, rfl, hm6, ho6, hb6⟩
          go_wp2_with fail
          refine (ht2 r _ (hork.below hb6).ints).mono ?_; rintro e w7 ⟨A7, m7, rfl, hm7, ho7, hb7⟩
          go_wp2_with fail
          go_ret2
          rw [HQ.out] at ho6
          rw [HF.out] at ho7
          exact ⟨_, _, _, _, rfl, (ho6.below hb7).mono hbk.size, ho7.mono (Nat.le_trans hbk.size hb6.size), by omega, hm7, below_step (below_step hbk hb6 hbk.size) hb7 (Nat.le_trans hbk.size hb6.size)⟩
    | succ j =>
      have ej : ((j + 1 : Nat) : Int) - 1 = (j : Int) := by omega
      obtain ⟨h, m, t, rfl, hhl, hml⟩ : ∃ h m t, u = h ++ (m ++ t) ∧ h.length = j ∧ m.length = n' + 1 :=
        ⟨u.take j, (u.drop j).take (n' + 1), (u.drop j).drop (n' + 1), by rw [List.take_append_drop, List.take_append_drop], by rw [List.length_take]; omega, by rw [List.length_take, List.length_drop]; omega⟩
      obtain ⟨hD, hMV⟩ := HL.out.mid hhl hml
      clear hD
      rw [← hvt] at hMV
      have hVp : 0 < vl v := by rw [hvt]; exact hV0
      obtain ⟨M, hM⟩ : ∃ M, vl m = M := ⟨_, rfl⟩
      have hgs := guess_any (some ⟨gu, 0, none⟩) (some ⟨gv, 0, none⟩) (n + 1) (n + 1) n' (n' + 1) h m t v t1 wr hou.ints hvL hml (by omega) (by omega) ht1 ht1h hMV
      rw [hhl] at hgs
      go_wp2_with fail
      refine hgs.mono ?_; rintro e wg ⟨q1, rfl, hq1, hq2, hq3, k, rfl⟩
      have hle := less_any w1.heap.size (some ⟨gu, 0, none⟩) (some ⟨gv, 0, none⟩) (n + 1) (n + 1) n' (n' + 1) h m t v q1 _ (hou.drewN k) (hvL.drewN k) (by intro x y hx hy; cases hx; cases hy; exact hguv) hml hq1 (by omega)
      rw [hhl] at hle
      go_wp2_with fail
      refine hle.mono ?_; rintro e wl ⟨m1, b, rfl, hb1, hml1, hou1, hv1, hg1⟩
      have hoq1 := (hoq.drewN k).kept hg1 (by intro ad he; cases he; simp; omega)
      have hvL1 := (hvL.drewN k).grown hg1 (by intro ad he; cases he; simp; omega)
      have hbl1 := (below_drewN hb k).grown hg1 hb.size (by simp; omega)
      have hm1lt : vl m1 < 4294967296 ^ (n' + 1) := by rw [← hml1]; exact Num.val_lt _ m1 (fun x hx => hou1.lt x (by simp [hx]))
      rcases (show b = 0 ∨ b = 1 by omega) with rfl | rfl
      · obtain ⟨hq, hr1⟩ := Num.limb_none hVp hq2 hv1
        subst hq
        obtain ⟨hN, hN0⟩ := HL.out.next hhl hml hml1 hV0 hhi (fun x hx => hou.lt x (by simp [hx])) (by rw [hoq.len]; omega) (by rw [← hvt]; exact hr1)
        rw [← hvt] at hN
        have HN0 := Lib.hid hN0
        obtain ⟨g, z, he, _, _, _, _, hco, hf⟩ := hoq1.get (k := j) (by omega)
        cases he
        clear hgs hle hv1 hr1 hN0 hq2 hq3 hMV hm1lt
        generalize vl m / vl v = Q at *
        rw [hvt] at hN
        have HN := Lib.hid hN
        clear hN
        go_wp2_with fail
        refine ⟨⟨j, by omega, rfl, _, _, hou1.setCell (by intro ad he; cases he; simp; omega) _, hoq1.stored j Q hq1, hvL1.setCell (by intro ad he; cases he; simp; omega) _, HN.out, ?_, hbl1.setCell hgqb _⟩, by simp [intOf]⟩
        show _ → _
        intro _
        exact HN0.out
      · have hq11 : 1 ≤ q1 := by
          rcases Nat.eq_zero_or_pos q1 with h0 | h0
          · subst h0; omega
          · exact h0
        obtain ⟨q2, hq2e⟩ : ∃ q2, q1 - 1 = q2 := ⟨_, rfl⟩
        have eq2 : (q1 : Int) - 1 = (q2 : Int) := by omega
        have hq2l : q2 < 4294967296 := by omega
        have hbk := back_any w1.heap.size (some ⟨gu, 0, none⟩) (some ⟨gv, 0, none⟩) (n + 1) (n + 1) n' (n' + 1) h m1 t v wl hou1 hvL1 (by intro x y hx hy; cases hx; cases hy; exact hguv) hml1 (by omega)
        rw [hhl] at hbk
        have HV1 := Lib.hid hv1
        have HQE := Lib.hid hq2e
        have HQ3 := Lib.hid hq3
        clear hv1 hq2e hq3 hq2 hgs hle hMV
        go_wp2_with fail
        refine hbk.mono ?_; rintro e wb ⟨⟨x, rfl⟩, m2, b2, hb2l, hml2, hou2, hv2, hg2⟩
        have hoq2 := hoq1.kept hg2 (by intro ad he; cases he; simp; omega)
        have hvL2 := hvL1.grown hg2 (by intro ad he; cases he; simp; omega)
        have hbl2 := hbl1.grown hg2 hbl1.size (by simp; omega)
        have hm2lt : vl m2 < 4294967296 ^ (n' + 1) := by rw [← hml2]; exact Num.val_lt _ m2 (fun x hx => hou2.lt x (by simp [hx]))
        obtain ⟨_, hq, hr1⟩ := Num.limb_back hVp HQ3.out HV1.out hm1lt hv2 hb2l hm2lt
        rw [HQE.out] at hq
        obtain ⟨hN, hN0⟩ := HL.out.next hhl hml hml2 hV0 hhi (fun x hx => hou.lt x (by simp [hx])) (by rw [hoq.len]; omega) (by rw [← hvt]; exact hr1)
        rw [← hvt, ← hq, hvt] at hN
        have HN := Lib.hid hN
        have HN0 := Lib.hid hN0
        obtain ⟨g, z, he, _, _, _, _, hco, hf⟩ := hoq2.get (k := j) (by omega)
        cases he
        clear hbk hv2 hr1 hq hN hN0 hm1lt hm2lt
        go_wp2_with fail
        refine ⟨⟨j, by omega, rfl, _, _, hou2.setCell (by intro ad he; cases he; simp; omega) _, hoq2.stored j q2 hq2l, hvL2.setCell (by intro ad he; cases he; simp; omega) _, HN.out, ?_, hbl2.setCell hgqb _⟩, by simp [intOf]⟩
        show _ → _
        intro _
        exact HN0.out
end Go.Proofs.YticjhlbmdjijnaaDoor
