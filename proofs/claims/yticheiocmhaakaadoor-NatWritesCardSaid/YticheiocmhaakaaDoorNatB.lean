/- The contracts of package nat: limb, Add, Mul. No condition but the reach of a slice. -/
import Derived.Test.YticheiocmhaakaaDoorNatA
namespace Go.Proofs.YticheiocmhaakaaDoor
open Go.RowKit

set_option maxRecDepth 100000 in
theorem limb_any (A : Option Addr) (n c : Nat) (l : List Nat) (w : World) (hr : Lim w A n c l) (i : Nat) (y : Nat) (hy : l[i]?.getD 0 = y) :
    Calls Tryd.prog 38 #[.slice A n c, .int .i64 i] w fun e w' => e = .returned (.int .u64 y) ∧ w' = w := by
  have hlen := hr.len
  by_cases h : i < n
  · obtain ⟨b, o, x, rfl, _, hx, hxl, hc⟩ := hr.get h
    rw [hx] at hy
    obtain rfl : x = y := hy
    clear hx
    go_enter Tryd.func38, Tryd.ntmps38
    go_wp2
    go_ret
    exact ⟨ret_int (by omega), rfl⟩
  · rw [List.getElem?_eq_none (by omega)] at hy
    obtain rfl : 0 = y := hy
    go_enter Tryd.func38, Tryd.ntmps38
    go_wp2
    go_ret
    exact ⟨rfl, rfl⟩

/-- The value of the first k digits, those beyond the end 0. -/
theorem vl_take_getD (l : List Nat) (k y : Nat) (hy : l[k]?.getD 0 = y) : vl (l.take (k + 1)) = vl (l.take k) + 4294967296 ^ k * y := by
  subst hy; exact Num.val_take_getD _ l k
theorem vl_take_set {l : List Nat} {k : Nat} (y : Nat) (hk : k < l.length) : vl ((l.set k y).take (k + 1)) = vl (l.take k) + 4294967296 ^ k * y := Num.val_take_set _ y hk
theorem getD_lt {l : List Nat} {B : Nat} (hB : 0 < B) (h : ∀ x ∈ l, x < B) (k y : Nat) (hy : l[k]?.getD 0 = y) : y < B := by
  subst hy
  rcases Nat.lt_or_ge k l.length with hk | hk
  · rw [List.getElem?_eq_getElem hk]; exact h _ (List.getElem_mem hk)
  · rw [List.getElem?_eq_none hk]; exact hB

theorem add_step (P s t u B C x y : Nat) (hs : s + P * C = t + u) : s + P * ((C + (x + y)) % B) + P * B * ((C + (x + y)) / B) = (t + P * x) + (u + P * y) := by
  have h : P * ((C + (x + y)) % B + B * ((C + (x + y)) / B)) = P * (C + (x + y)) := by rw [Nat.mod_add_div]
  rw [Nat.mul_add, Nat.mul_add, Nat.mul_add, ← Nat.mul_assoc] at h
  omega

set_option maxRecDepth 100000 in
set_option maxHeartbeats 800000 in
theorem add_any (A A' : Option Addr) (n c n' c' : Nat) (l l' : List Nat) (w : World) (hr : Lim w A n c l) (hr' : Lim w A' n' c' l') (hn : n ≤ 549755813888) (hn' : n' ≤ 549755813888) :
    Calls Tryd.prog 20 #[.slice A n c, .slice A' n' c'] w fun e w' => ∃ A2 m, e = .returned (.slice A2 m m) ∧ m ≤ max n n' + 1 ∧ OwnL w' w.heap.size A2 m m (lmb (vl l + vl l')) ∧ Below w.heap.size w w' := by
  have hlen := hr.len
  have hlen' := hr'.len
  obtain ⟨N, hN⟩ : ∃ N, max n n' = N := ⟨_, rfl⟩
  have hmx : (if n < n' then (n' : Int) else (n : Int)) = (N : Int) := by omega
  have hN1 : N ≤ 549755813888 := by omega
  have hl1 : n ≤ N := by omega
  have hl2 : n' ≤ N := by omega
  rw [hN]
  clear hN
  go_enter Tryd.func20, Tryd.ntmps20
  go_wp2_with (refine wpList_mkL rfl _ _ rfl (N + 1) rfl rfl (by omega) (by omega) (by omega) w.heap.size (Nat.le_refl _) ?_; intro w2 hown hg2)
  have hb2 := below_none (Below.refl w.heap.size w) hg2 (Nat.le_refl _)
  go_loopw [7, 18] (fun cy i wr => ∃ k C : Nat, k ≤ N ∧ i = .int .i64 k ∧ cy = .int .u64 C ∧ C ≤ 1 ∧ ∃ o : List Nat, OwnL wr w.heap.size (some ⟨w.heap.size, 0, none⟩) (N + 1) (N + 1) o ∧
      vl (o.take k) + 4294967296 ^ k * C = vl (l.take k) + vl (l'.take k) ∧ Below w.heap.size w wr) (fun _ i _ => N - (intOf i).toNat)
  case atStart => exact ⟨0, 0, by omega, rfl, rfl, by omega, _, hown, by simp [vl, Num.val], hb2⟩
  case round =>
    obtain ⟨k, C, hk, rfl, rfl, hC, o, ho, hsum, hb⟩ := hrel
    by_cases hlt : k < N
    · obtain ⟨x, hx⟩ : ∃ x, l[k]?.getD 0 = x := ⟨_, rfl⟩
      obtain ⟨y, hy⟩ : ∃ y, l'[k]?.getD 0 = y := ⟨_, rfl⟩
      have hxl := getD_lt (by omega) hr.lt k x hx
      have hyl := getD_lt (by omega) hr'.lt k y hy
      obtain ⟨g, z, he, _, _, hz, _, hc, hf⟩ := ho.get (k := k) (by omega)
      cases he
      have hL1 := limb_any A n c l wr (hr.below hb) k x hx
      have hL2 := limb_any A' n' c' l' wr (hr'.below hb) k y hy
      have hstep : vl ((o.set k ((C + (x + y)) % 4294967296)).take (k + 1)) + 4294967296 ^ (k + 1) * ((C + (x + y)) / 4294967296) = vl (l.take (k + 1)) + vl (l'.take (k + 1)) := by
        rw [vl_take_set _ (by rw [ho.len]; omega), vl_take_getD l k x hx, vl_take_getD l' k y hy, Nat.pow_succ]
        exact add_step _ _ _ _ _ _ _ _ hsum
      have HS := Lib.hid hstep
      clear hz hx hy hstep hsum
      go_wp2_with fail
      refine hL1.mono ?_; rintro e w' ⟨rfl, rfl⟩
      go_wp2_with fail
      refine hL2.mono ?_; rintro e w' ⟨rfl, rfl⟩
      go_wp2_with fail
      have e1 : ((C : Int) + (x + y)) % 4294967296 = (((C + (x + y)) % 4294967296 : Nat) : Int) := by omega
      have e2 : ((C : Int) + (x + y)) / 4294967296 = (((C + (x + y)) / 4294967296 : Nat) : Int) := by omega
      rw [e1, e2]
      exact ⟨⟨k + 1, _, by omega, by go_num, rfl, by omega, _, ho.stored k _ (Nat.mod_lt _ (by omega)), HS.out, hb.setCell (Nat.le_refl _) _⟩, by simp [intOf]; omega⟩
    · obtain rfl : k = N := by omega
      obtain ⟨g, z, he, _, _, _, _, hc, hf⟩ := ho.get (k := k) (by omega)
      cases he
      have hfin : lmb (vl (o.set k C)) = lmb (vl l + vl l') := by
        have h1 := vl_take_set (l := o) (k := k) C (by rw [ho.len]; omega)
        rw [List.take_of_length_le (by simp [ho.len])] at h1
        rw [h1, hsum, List.take_of_length_le (by omega), List.take_of_length_le (by omega)]
      have HF := Lib.hid hfin
      have ho' := ho.stored k C (by omega)
      have ht := fun w0 h0 => trim_any (some ⟨w.heap.size, 0, none⟩) (k + 1) (k + 1) (o.set k C) w0 h0 (by omega)
      clear hfin hsum
      go_wp2_with fail
      refine (ht _ ho'.ints).mono ?_; rintro e w' ⟨A2, m, rfl, hm, hO, hB⟩
      rw [HF.out] at hO
      have hb3 := hb.setCell (p := ⟨w.heap.size, k, none⟩) (Nat.le_refl _) (.int .u32 (C : Int))
      go_wp2_with fail
      go_ret
      exact ⟨_, _, rfl, hm, hO.mono hb3.size, below_step hb3 hB hb3.size⟩
end Go.Proofs.YticheiocmhaakaaDoor
